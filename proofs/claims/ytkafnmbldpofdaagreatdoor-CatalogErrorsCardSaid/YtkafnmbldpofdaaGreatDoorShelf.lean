/-
 DERIVED: THE SHELF's CONTRACTS AT THIS DUMP,IN PLAIN WORDS (tools/lay-plain.mjs out of 'TryzShelf.lean',which tools/lay-shelf.mjs wrote): THE SAME DECLARATIONS UNDER THE SAME NAMES: 'import','namespace','open','def','theorem' AND NOTHING ELSE: no command of the shelf's: FOR A HAND-IN. Each laying: the table of numbers ('.._ren') and one theorem,a field a fact of the dump's own or the kernel's comparison;each contract: ONE APPLICATION.
-/
import Derived.Shelf.Strings.Builder1
import Derived.Shelf.Strings.Builder2
import Derived.Shelf.Strings.OnBuilder
import Derived.Shelf.Small.Utf8
import Derived.Shelf.Small.Bits
import Derived.Shelf.Small.Strs
import Derived.Shelf.Strings.BuilderF
import Derived.Shelf.Strings.BuilderK
import Derived.Shelf.Strings.Builder2Cap
import Derived.Shelf.Strconv.Itoa0
import Derived.Shelf.Strconv.Itoa1
import Derived.Shelf.LaysM
import Derived.Shelf.Strconv.Itoa2
import Derived.Shelf.Strconv.Itoa3
import Derived.Shelf.Strings.Search1
import Derived.Shelf.Strings.Search2
import Derived.Shelf.Strings.Search3
import Derived.Shelf.Strings.Count
import Derived.Shelf.Strings.Shaped
import Derived.Shelf.Strings.LastIndex
import Derived.Shelf.Strings.Prefix
import Derived.Shelf.Strings.Split
import Derived.Shelf.Strings.SplitShaped
import Derived.Shelf.Strings.Runes
import Derived.Shelf.Strings.AsciiSet
import Derived.Shelf.Bits.Mul64
import Derived.Shelf.Strings.Repeat
import Derived.Shelf.Unicode.DecodeSlow
import Derived.Shelf.Strings.BuilderCap
import Derived.Shelf.Slices.Turned
import Derived.Shelf.Slices.Equal
import Derived.Shelf.Slices.Empties2
import Derived.Ground.PaProg
import Derived.Shelf.Path.Small
import Derived.Test.YtkafnmbldpofdaaGreatDoorProg
namespace Go.Proofs
open Go.Shelf
def Tryz.lays106_ren:Go.Shelf.Ren:=⟨fun | 106=>91 | 213=>172 | 265=>243 | n=>n,fun | 9=>9 | 3=>3 | n=>n,fun | n=>n⟩
theorem Tryz.lays106:Go.Proofs.Lays.n106 Tryz.prog Tryz.lays106_ren:={
 mixed:=by kernel_rfl
 f106:=Tryz.func91.trans (congrArg some (by kernel_rfl))
 f213:=Tryz.func172.trans (congrArg some (by kernel_rfl))
 f265:=Tryz.func243.trans (congrArg some (by kernel_rfl))
 t3:=Tryz.underlying3
 a3:=Tryz.isAgg3
 z3:=Tryz.sizeOf3
 v3:=Tryz.zeroValue3
 t9:=Tryz.underlying9
 a9:=Tryz.isAgg9
 z9:=Tryz.sizeOf9
 v9:=Tryz.zeroValue9 }
open Go.RowKit in
theorem Tryz.strings_Compare (a b:ByteArray) (w:World) :
  Calls Tryz.prog 91 #[.string a,.string b] w fun e w'=>e=.returned (.int .i64 (Lib.compareBytes a.data.toList b.data.toList))∧w'=w:=Any.strings_Compare Tryz.lays106 a b w
def Tryz.laysM171_ren:Go.Shelf.Ren:=⟨fun | 171=>324 | 243=>334 | 246=>336 | 283=>337 | 284=>338 | 285=>339 | 286=>340 | 129=>267 | 317=>341 | 318=>342 | 319=>343 | 320=>344 | 337=>345 | 338=>346 | n=>n,fun | 3=>3 | 9=>9 | 2=>2 | 4=>4 | 171=>352 | 0=>0 | 53=>272 | 37=>122 | 5=>5 | 173=>354 | 212=>357 | 51=>296 | 20=>20 | 213=>358 | 46=>236 | 232=>359 | 233=>360 | n=>n,fun | 17=>3 | 18=>4 | 19=>5 | n=>n⟩
theorem Tryz.laysM171:Go.Proofs.LaysM.n171 Tryz.prog Tryz.laysM171_ren:={
 mixed:=by kernel_rfl
 f129:=Tryz.func267.trans (congrArg some (by kernel_rfl))
 f171:=Tryz.func324.trans (congrArg some (by kernel_rfl))
 f243:=Tryz.func334.trans (congrArg some (by kernel_rfl))
 f246:=Tryz.func336.trans (congrArg some (by kernel_rfl))
 f283:=Tryz.func337.trans (congrArg some (by kernel_rfl))
 f284:=Tryz.func338.trans (congrArg some (by kernel_rfl))
 f285:=Tryz.func339.trans (congrArg some (by kernel_rfl))
 f286:=Tryz.func340.trans (congrArg some (by kernel_rfl))
 f317:=Tryz.func341.trans (congrArg some (by kernel_rfl))
 f318:=Tryz.func342.trans (congrArg some (by kernel_rfl))
 f319:=Tryz.func343.trans (congrArg some (by kernel_rfl))
 f320:=Tryz.func344.trans (congrArg some (by kernel_rfl))
 f337:=Tryz.func345.trans (congrArg some (by kernel_rfl))
 f338:=Tryz.func346.trans (congrArg some (by kernel_rfl))
 t0:=Tryz.underlying0
 a0:=Tryz.isAgg0
 z0:=Tryz.sizeOf0
 v0:=Tryz.zeroValue0
 t2:=Tryz.underlying2
 a2:=Tryz.isAgg2
 z2:=Tryz.sizeOf2
 v2:=Tryz.zeroValue2
 t3:=Tryz.underlying3
 a3:=Tryz.isAgg3
 z3:=Tryz.sizeOf3
 v3:=Tryz.zeroValue3
 t4:=Tryz.underlying4
 a4:=Tryz.isAgg4
 z4:=Tryz.sizeOf4
 v4:=Tryz.zeroValue4
 t5:=Tryz.underlying5
 a5:=Tryz.isAgg5
 z5:=Tryz.sizeOf5
 v5:=Tryz.zeroValue5
 t9:=Tryz.underlying9
 a9:=Tryz.isAgg9
 z9:=Tryz.sizeOf9
 v9:=Tryz.zeroValue9
 t20:=Tryz.underlying20
 a20:=Tryz.isAgg20
 z20:=Tryz.sizeOf20
 v20:=Tryz.zeroValue20
 t37:=Tryz.underlying122
 a37:=Tryz.isAgg122
 z37:=Tryz.sizeOf122
 v37:=Tryz.zeroValue122
 t46:=Tryz.underlying236
 a46:=Tryz.isAgg236
 z46:=Tryz.sizeOf236
 v46:=Tryz.zeroValue236
 t51:=Tryz.underlying296
 a51:=Tryz.isAgg296
 z51:=Tryz.sizeOf296
 v51:=Tryz.zeroValue296
 t53:=Tryz.underlying272
 a53:=Tryz.isAgg272
 z53:=Tryz.sizeOf272
 v53:=Tryz.zeroValue272
 t171:=Tryz.underlying352
 a171:=Tryz.isAgg352
 z171:=Tryz.sizeOf352
 v171:=Tryz.zeroValue352
 t173:=Tryz.underlying354
 a173:=Tryz.isAgg354
 z173:=Tryz.sizeOf354
 v173:=Tryz.zeroValue354
 t212:=Tryz.underlying357
 a212:=Tryz.isAgg357
 z212:=Tryz.sizeOf357
 v212:=Tryz.zeroValue357
 t213:=Tryz.underlying358
 a213:=Tryz.isAgg358
 z213:=Tryz.sizeOf358
 t232:=Tryz.underlying359
 a232:=Tryz.isAgg359
 z232:=Tryz.sizeOf359
 v232:=Tryz.zeroValue359
 t233:=Tryz.underlying360
 a233:=Tryz.isAgg360
 z233:=Tryz.sizeOf360
 v233:=Tryz.zeroValue360
 g17:=by kernel_rfl
 g18:=by kernel_rfl
 g19:=by kernel_rfl
 i0:=by kernel_rfl
 i2:=by kernel_rfl
 i3:=by kernel_rfl
 i4:=by kernel_rfl
 i5:=by kernel_rfl
 i9:=by kernel_rfl
 i20:=by kernel_rfl
 i37:=by kernel_rfl
 i46:=by kernel_rfl
 i51:=by kernel_rfl
 i53:=by kernel_rfl
 i171:=by kernel_rfl
 i173:=by kernel_rfl
 i212:=by kernel_rfl
 i232:=by kernel_rfl
 i233:=by kernel_rfl
 m17:=by kernel_rfl
 m18:=by kernel_rfl
 m19:=by kernel_rfl }
open Go.RowKit Go.Sort Go.Lib in
theorem Tryz.strconv_Itoa (n : Int) (h0 : -9223372036854775808 ≤ n) (h1 : n ≤ 9223372036854775807) (w : World) (htab : Lib.TabIs Tryz.prog w "internal/strconv.uint64pow10" .u64 Lib.pow10Tab) :
  Calls Tryz.prog 324 #[.int .i64 n] w fun e w'=>e=.returned (.string ⟨(Lib.itoa n).toArray⟩)∧∃ k os,w'=grow (w.drewN k) os:=Any.strconv_Itoa Tryz.laysM171 n h0 h1 w htab
def Tryz.lays144_ren:Go.Shelf.Ren:=⟨fun | 144=>163 | 143=>239 | 219=>288 | 217=>315 | 225=>316 | 224=>317 | 267=>318 | 266=>330 | 314=>331 | n=>n,fun | 9=>9 | 4=>4 | 3=>3 | 5=>5 | 46=>236 | 146=>306 | 51=>296 | n=>n,fun | 1=>0 | n=>n⟩
theorem Tryz.lays144:Go.Proofs.Lays.n144 Tryz.prog Tryz.lays144_ren:={
 mixed:=by kernel_rfl
 f143:=Tryz.func239.trans (congrArg some (by kernel_rfl))
 f144:=Tryz.func163.trans (congrArg some (by kernel_rfl))
 f217:=Tryz.func315.trans (congrArg some (by kernel_rfl))
 f219:=Tryz.func288.trans (congrArg some (by kernel_rfl))
 f224:=Tryz.func317.trans (congrArg some (by kernel_rfl))
 f225:=Tryz.func316.trans (congrArg some (by kernel_rfl))
 f266:=Tryz.func330.trans (congrArg some (by kernel_rfl))
 f267:=Tryz.func318.trans (congrArg some (by kernel_rfl))
 f314:=Tryz.func331.trans (congrArg some (by kernel_rfl))
 t3:=Tryz.underlying3
 a3:=Tryz.isAgg3
 z3:=Tryz.sizeOf3
 v3:=Tryz.zeroValue3
 t4:=Tryz.underlying4
 a4:=Tryz.isAgg4
 z4:=Tryz.sizeOf4
 v4:=Tryz.zeroValue4
 t5:=Tryz.underlying5
 a5:=Tryz.isAgg5
 z5:=Tryz.sizeOf5
 v5:=Tryz.zeroValue5
 t9:=Tryz.underlying9
 a9:=Tryz.isAgg9
 z9:=Tryz.sizeOf9
 v9:=Tryz.zeroValue9
 t46:=Tryz.underlying236
 a46:=Tryz.isAgg236
 z46:=Tryz.sizeOf236
 v46:=Tryz.zeroValue236
 t51:=Tryz.underlying296
 a51:=Tryz.isAgg296
 z51:=Tryz.sizeOf296
 v51:=Tryz.zeroValue296
 t146:=Tryz.underlying306
 a146:=Tryz.isAgg306
 z146:=Tryz.sizeOf306
 v146:=Tryz.zeroValue306
 g1:=by kernel_rfl }
open Go.RowKit Go.Lib in
theorem Tryz.strings_Contains_one (s:ByteArray) (c:UInt8) (w:World) :
  Calls Tryz.prog 163 #[.string s,.string ⟨#[c]⟩] w fun e w'=>e=.returned (.bool (decide (0<=Lib.indexByte s.data.toList c)))∧w'=w:=Any.strings_Contains_one Tryz.lays144 s c w
open Go.RowKit Go.Lib in
theorem Tryz.strings_Contains (s sub:ByteArray) (m:Int) (w:World) (hs:s.size<4294967281) (hm:w.cell? ⟨0,0,none⟩=some (.int .i64 m)) :
  Calls Tryz.prog 163 #[.string s,.string sub] w fun e w'=>e=.returned (.bool (Lib.contains s.data.toList sub.data.toList))∧w'=w:=Any.strings_Contains Tryz.lays144 s sub m w hs hm
def Tryz.lays138_ren:Go.Shelf.Ren:=⟨fun | 138=>188 | 195=>253 | 218=>254 | 143=>239 | 219=>288 | 217=>315 | 225=>316 | 224=>317 | 267=>318 | 266=>330 | 314=>331 | n=>n,fun | 9=>9 | 3=>3 | 4=>4 | 5=>5 | 0=>0 | 46=>236 | 146=>306 | 51=>296 | n=>n,fun | 1=>0 | n=>n⟩
theorem Tryz.lays138:Go.Proofs.Lays.n138 Tryz.prog Tryz.lays138_ren:={
 mixed:=by kernel_rfl
 f138:=Tryz.func188.trans (congrArg some (by kernel_rfl))
 f143:=Tryz.func239.trans (congrArg some (by kernel_rfl))
 f195:=Tryz.func253.trans (congrArg some (by kernel_rfl))
 f217:=Tryz.func315.trans (congrArg some (by kernel_rfl))
 f218:=Tryz.func254.trans (congrArg some (by kernel_rfl))
 f219:=Tryz.func288.trans (congrArg some (by kernel_rfl))
 f224:=Tryz.func317.trans (congrArg some (by kernel_rfl))
 f225:=Tryz.func316.trans (congrArg some (by kernel_rfl))
 f266:=Tryz.func330.trans (congrArg some (by kernel_rfl))
 f267:=Tryz.func318.trans (congrArg some (by kernel_rfl))
 f314:=Tryz.func331.trans (congrArg some (by kernel_rfl))
 t0:=Tryz.underlying0
 a0:=Tryz.isAgg0
 z0:=Tryz.sizeOf0
 v0:=Tryz.zeroValue0
 t3:=Tryz.underlying3
 a3:=Tryz.isAgg3
 z3:=Tryz.sizeOf3
 v3:=Tryz.zeroValue3
 t4:=Tryz.underlying4
 a4:=Tryz.isAgg4
 z4:=Tryz.sizeOf4
 v4:=Tryz.zeroValue4
 t5:=Tryz.underlying5
 a5:=Tryz.isAgg5
 z5:=Tryz.sizeOf5
 v5:=Tryz.zeroValue5
 t9:=Tryz.underlying9
 a9:=Tryz.isAgg9
 z9:=Tryz.sizeOf9
 v9:=Tryz.zeroValue9
 t46:=Tryz.underlying236
 a46:=Tryz.isAgg236
 z46:=Tryz.sizeOf236
 v46:=Tryz.zeroValue236
 t51:=Tryz.underlying296
 a51:=Tryz.isAgg296
 z51:=Tryz.sizeOf296
 v51:=Tryz.zeroValue296
 t146:=Tryz.underlying306
 a146:=Tryz.isAgg306
 z146:=Tryz.sizeOf306
 v146:=Tryz.zeroValue306
 g1:=by kernel_rfl }
open Go.RowKit Go.Lib in
theorem Tryz.strings_Count_one (s:ByteArray) (c:UInt8) (w:World) :
  Calls Tryz.prog 188 #[.string s,.string ⟨#[c]⟩] w fun e w'=>e=.returned (.int .i64 (Lib.countByte s.data.toList c))∧w'=w:=Any.strings_Count_one Tryz.lays138 s c w
def Tryz.laysM144_ren:Go.Shelf.Ren:=⟨fun | 144=>163 | 143=>239 | 219=>288 | 217=>315 | 225=>316 | 224=>317 | 267=>318 | 266=>330 | 314=>331 | n=>n,fun | 9=>9 | 4=>4 | 3=>3 | 5=>5 | 46=>236 | 146=>306 | 51=>296 | n=>n,fun | 1=>0 | n=>n⟩
theorem Tryz.laysM144:Go.Proofs.LaysM.n144 Tryz.prog Tryz.laysM144_ren:={
 mixed:=by kernel_rfl
 f143:=Tryz.func239.trans (congrArg some (by kernel_rfl))
 f144:=Tryz.func163.trans (congrArg some (by kernel_rfl))
 f217:=Tryz.func315.trans (congrArg some (by kernel_rfl))
 f219:=Tryz.func288.trans (congrArg some (by kernel_rfl))
 f224:=Tryz.func317.trans (congrArg some (by kernel_rfl))
 f225:=Tryz.func316.trans (congrArg some (by kernel_rfl))
 f266:=Tryz.func330.trans (congrArg some (by kernel_rfl))
 f267:=Tryz.func318.trans (congrArg some (by kernel_rfl))
 f314:=Tryz.func331.trans (congrArg some (by kernel_rfl))
 t3:=Tryz.underlying3
 a3:=Tryz.isAgg3
 z3:=Tryz.sizeOf3
 v3:=Tryz.zeroValue3
 t4:=Tryz.underlying4
 a4:=Tryz.isAgg4
 z4:=Tryz.sizeOf4
 v4:=Tryz.zeroValue4
 t5:=Tryz.underlying5
 a5:=Tryz.isAgg5
 z5:=Tryz.sizeOf5
 v5:=Tryz.zeroValue5
 t9:=Tryz.underlying9
 a9:=Tryz.isAgg9
 z9:=Tryz.sizeOf9
 v9:=Tryz.zeroValue9
 t46:=Tryz.underlying236
 a46:=Tryz.isAgg236
 z46:=Tryz.sizeOf236
 v46:=Tryz.zeroValue236
 t51:=Tryz.underlying296
 a51:=Tryz.isAgg296
 z51:=Tryz.sizeOf296
 v51:=Tryz.zeroValue296
 t146:=Tryz.underlying306
 a146:=Tryz.isAgg306
 z146:=Tryz.sizeOf306
 v146:=Tryz.zeroValue306
 g1:=by kernel_rfl
 i3:=by kernel_rfl
 i4:=by kernel_rfl
 i5:=by kernel_rfl
 i9:=by kernel_rfl
 i46:=by kernel_rfl
 i51:=by kernel_rfl
 i146:=by kernel_rfl
 m1:=by kernel_rfl
 s1_3:=fun w h=>Go.Proofs.cell_of_shapedOpen_int (zero:=#[.int .i64 0]) (t:=3) h (of_decide_eq_true (by kernel_rfl)) (by kernel_rfl) rfl (by kernel_rfl) (by kernel_rfl) Tryz.underlying3 }
def Tryz.lays149_ren:Go.Shelf.Ren:=⟨fun | 149=>123 | 222=>214 | n=>n,fun | 9=>9 | 5=>5 | 3=>3 | 4=>4 | n=>n,fun | n=>n⟩
theorem Tryz.lays149:Go.Proofs.Lays.n149 Tryz.prog Tryz.lays149_ren:={
 mixed:=by kernel_rfl
 f149:=Tryz.func123.trans (congrArg some (by kernel_rfl))
 f222:=Tryz.func214.trans (congrArg some (by kernel_rfl))
 t3:=Tryz.underlying3
 a3:=Tryz.isAgg3
 z3:=Tryz.sizeOf3
 v3:=Tryz.zeroValue3
 t4:=Tryz.underlying4
 a4:=Tryz.isAgg4
 z4:=Tryz.sizeOf4
 v4:=Tryz.zeroValue4
 t5:=Tryz.underlying5
 a5:=Tryz.isAgg5
 z5:=Tryz.sizeOf5
 v5:=Tryz.zeroValue5
 t9:=Tryz.underlying9
 a9:=Tryz.isAgg9
 z9:=Tryz.sizeOf9
 v9:=Tryz.zeroValue9 }
open Go.RowKit Go.Lib in
theorem Tryz.strings_LastIndexByte (s:ByteArray) (c:Int) (hs:s.size<4611686018427387904) (w:World) :
  Calls Tryz.prog 123 #[.string s,.int .u8 c] w fun e w'=>e=.returned (.int .i64 (Lib.lastIndexByte s c))∧w'=w:=Any.strings_LastIndexByte Tryz.lays149 s c hs w
def Tryz.lays146_ren:Go.Shelf.Ren:=⟨fun | 146=>165 | 221=>240 | 268=>289 | 138=>188 | 143=>239 | 195=>253 | 197=>299 | 218=>254 | 219=>288 | 260=>325 | 217=>315 | 225=>316 | 224=>317 | 267=>318 | 266=>330 | 314=>331 | n=>n,fun | 9=>9 | 31=>206 | 3=>3 | 4=>4 | 0=>0 | 105=>285 | 21=>21 | 5=>5 | 46=>236 | 119=>347 | 139=>350 | 138=>349 | 146=>306 | 51=>296 | n=>n,fun | 1=>0 | 3=>1 | 4=>2 | n=>n⟩
theorem Tryz.lays146:Go.Proofs.Lays.n146 Tryz.prog Tryz.lays146_ren:={
 mixed:=by kernel_rfl
 f138:=Tryz.func188.trans (congrArg some (by kernel_rfl))
 f143:=Tryz.func239.trans (congrArg some (by kernel_rfl))
 f146:=Tryz.func165.trans (congrArg some (by kernel_rfl))
 f195:=Tryz.func253.trans (congrArg some (by kernel_rfl))
 f197:=Tryz.func299.trans (congrArg some (by kernel_rfl))
 f217:=Tryz.func315.trans (congrArg some (by kernel_rfl))
 f218:=Tryz.func254.trans (congrArg some (by kernel_rfl))
 f219:=Tryz.func288.trans (congrArg some (by kernel_rfl))
 f221:=Tryz.func240.trans (congrArg some (by kernel_rfl))
 f224:=Tryz.func317.trans (congrArg some (by kernel_rfl))
 f225:=Tryz.func316.trans (congrArg some (by kernel_rfl))
 f260:=Tryz.func325.trans (congrArg some (by kernel_rfl))
 f266:=Tryz.func330.trans (congrArg some (by kernel_rfl))
 f267:=Tryz.func318.trans (congrArg some (by kernel_rfl))
 f268:=Tryz.func289.trans (congrArg some (by kernel_rfl))
 f314:=Tryz.func331.trans (congrArg some (by kernel_rfl))
 t0:=Tryz.underlying0
 a0:=Tryz.isAgg0
 z0:=Tryz.sizeOf0
 v0:=Tryz.zeroValue0
 t3:=Tryz.underlying3
 a3:=Tryz.isAgg3
 z3:=Tryz.sizeOf3
 v3:=Tryz.zeroValue3
 t4:=Tryz.underlying4
 a4:=Tryz.isAgg4
 z4:=Tryz.sizeOf4
 v4:=Tryz.zeroValue4
 t5:=Tryz.underlying5
 a5:=Tryz.isAgg5
 z5:=Tryz.sizeOf5
 v5:=Tryz.zeroValue5
 t9:=Tryz.underlying9
 a9:=Tryz.isAgg9
 z9:=Tryz.sizeOf9
 v9:=Tryz.zeroValue9
 t21:=Tryz.underlying21
 a21:=Tryz.isAgg21
 z21:=Tryz.sizeOf21
 v21:=Tryz.zeroValue21
 t31:=Tryz.underlying206
 a31:=Tryz.isAgg206
 z31:=Tryz.sizeOf206
 v31:=Tryz.zeroValue206
 t46:=Tryz.underlying236
 a46:=Tryz.isAgg236
 z46:=Tryz.sizeOf236
 v46:=Tryz.zeroValue236
 t51:=Tryz.underlying296
 a51:=Tryz.isAgg296
 z51:=Tryz.sizeOf296
 v51:=Tryz.zeroValue296
 t105:=Tryz.underlying285
 a105:=Tryz.isAgg285
 z105:=Tryz.sizeOf285
 v105:=Tryz.zeroValue285
 t119:=Tryz.underlying347
 a119:=Tryz.isAgg347
 z119:=Tryz.sizeOf347
 t138:=Tryz.underlying349
 a138:=Tryz.isAgg349
 z138:=Tryz.sizeOf349
 v138:=Tryz.zeroValue349
 t139:=Tryz.underlying350
 a139:=Tryz.isAgg350
 z139:=Tryz.sizeOf350
 v139:=Tryz.zeroValue350
 t146:=Tryz.underlying306
 a146:=Tryz.isAgg306
 z146:=Tryz.sizeOf306
 v146:=Tryz.zeroValue306
 g1:=by kernel_rfl
 g3:=by kernel_rfl
 g4:=by kernel_rfl }
open Go.RowKit Go.Lib in
theorem Tryz.strings_Split (s sep:ByteArray) (m:Int) (w:World) (hs:s.size<4294967281) (hm:w.cell? ⟨0,0,none⟩=some (.int .i64 m)) (h1:1<=sep.size) :
  Calls Tryz.prog 165 #[.string s,.string sep] w fun e w' =>
   e=.returned (.slice (some ⟨w.heap.size,0,none⟩) (Lib.countB s sep+1) (Lib.countB s sep+1))∧w'=w.alloc (.cells ((Lib.splitB sep 0 (Lib.countB s sep) s).map Value.string).toArray 9):=Any.strings_Split Tryz.lays146 (by kernel_rfl) s sep m w hs hm h1
def Tryz.lays105_ren:Go.Shelf.Ren:=⟨fun | 105=>126 | 212=>218 | 99=>219 | 165=>220 | 166=>221 | 170=>222 | 169=>223 | 263=>277 | 264=>278 | 206=>279 | 240=>280 | 241=>281 | 276=>312 | 277=>313 | n=>n,fun | 9=>9 | 3=>3 | 4=>4 | 20=>20 | 0=>0 | 46=>236 | 109=>247 | 5=>5 | 72=>251 | 76=>255 | 51=>296 | 146=>306 | 53=>272 | 148=>308 | 70=>249 | 37=>122 | 75=>254 | 127=>310 | 164=>334 | 80=>258 | n=>n,fun | n=>n⟩
theorem Tryz.lays105:Go.Proofs.Lays.n105 Tryz.prog Tryz.lays105_ren:={
 mixed:=by kernel_rfl
 f99:=Tryz.func219.trans (congrArg some (by kernel_rfl))
 f105:=Tryz.func126.trans (congrArg some (by kernel_rfl))
 f165:=Tryz.func220.trans (congrArg some (by kernel_rfl))
 f166:=Tryz.func221.trans (congrArg some (by kernel_rfl))
 f169:=Tryz.func223.trans (congrArg some (by kernel_rfl))
 f170:=Tryz.func222.trans (congrArg some (by kernel_rfl))
 f206:=Tryz.func279.trans (congrArg some (by kernel_rfl))
 f212:=Tryz.func218.trans (congrArg some (by kernel_rfl))
 f240:=Tryz.func280.trans (congrArg some (by kernel_rfl))
 f241:=Tryz.func281.trans (congrArg some (by kernel_rfl))
 f263:=Tryz.func277.trans (congrArg some (by kernel_rfl))
 f264:=Tryz.func278.trans (congrArg some (by kernel_rfl))
 f276:=Tryz.func312.trans (congrArg some (by kernel_rfl))
 f277:=Tryz.func313.trans (congrArg some (by kernel_rfl))
 t0:=Tryz.underlying0
 a0:=Tryz.isAgg0
 z0:=Tryz.sizeOf0
 v0:=Tryz.zeroValue0
 t3:=Tryz.underlying3
 a3:=Tryz.isAgg3
 z3:=Tryz.sizeOf3
 v3:=Tryz.zeroValue3
 t4:=Tryz.underlying4
 a4:=Tryz.isAgg4
 z4:=Tryz.sizeOf4
 v4:=Tryz.zeroValue4
 t5:=Tryz.underlying5
 a5:=Tryz.isAgg5
 z5:=Tryz.sizeOf5
 v5:=Tryz.zeroValue5
 t9:=Tryz.underlying9
 a9:=Tryz.isAgg9
 z9:=Tryz.sizeOf9
 v9:=Tryz.zeroValue9
 t20:=Tryz.underlying20
 a20:=Tryz.isAgg20
 z20:=Tryz.sizeOf20
 v20:=Tryz.zeroValue20
 t37:=Tryz.underlying122
 a37:=Tryz.isAgg122
 z37:=Tryz.sizeOf122
 v37:=Tryz.zeroValue122
 t46:=Tryz.underlying236
 a46:=Tryz.isAgg236
 z46:=Tryz.sizeOf236
 v46:=Tryz.zeroValue236
 t51:=Tryz.underlying296
 a51:=Tryz.isAgg296
 z51:=Tryz.sizeOf296
 v51:=Tryz.zeroValue296
 t53:=Tryz.underlying272
 a53:=Tryz.isAgg272
 z53:=Tryz.sizeOf272
 v53:=Tryz.zeroValue272
 t70:=Tryz.underlying249
 a70:=Tryz.isAgg249
 z70:=Tryz.sizeOf249
 v70:=Tryz.zeroValue249
 t72:=Tryz.underlying251
 a72:=Tryz.isAgg251
 z72:=Tryz.sizeOf251
 v72:=Tryz.zeroValue251
 t75:=Tryz.underlying254
 a75:=Tryz.isAgg254
 z75:=Tryz.sizeOf254
 v75:=Tryz.zeroValue254
 t76:=Tryz.underlying255
 a76:=Tryz.isAgg255
 z76:=Tryz.sizeOf255
 v76:=Tryz.zeroValue255
 t109:=Tryz.underlying247
 a109:=Tryz.isAgg247
 z109:=Tryz.sizeOf247
 v109:=Tryz.zeroValue247
 t127:=Tryz.underlying310
 a127:=Tryz.isAgg310
 z127:=Tryz.sizeOf310
 v127:=Tryz.zeroValue310
 t146:=Tryz.underlying306
 a146:=Tryz.isAgg306
 z146:=Tryz.sizeOf306
 v146:=Tryz.zeroValue306
 t148:=Tryz.underlying308
 a148:=Tryz.isAgg308
 z148:=Tryz.sizeOf308
 v148:=Tryz.zeroValue308
 t164:=Tryz.underlying334
 a164:=Tryz.isAgg334
 z164:=Tryz.sizeOf334
 v164:=Tryz.zeroValue334 }
theorem Tryz.Builder_Extra_105:Builder.Extra Tryz.prog Tryz.lays105_ren:={
 sizeBuilder:=by kernel_rfl
 liesBuilder:=by kernel_rfl
 t5:=Tryz.underlying5
 a5:=Tryz.isAgg5
 z5:=Tryz.sizeOf5
 v5:=Tryz.zeroValue5
 infoByte:=by kernel_rfl
 cellsByte:=by kernel_rfl
 sizeByte:=by kernel_rfl
 neB5:=by decide }
open Go.RowKit Go.Lib in
theorem Tryz.strings_Repeat (s:ByteArray) (c:Nat) (w:World) (hc:c<=9223372036854775807) (hlen:s.size*c<=140737488355328) :
  Calls Tryz.prog 126 #[.string s,.int .i64 c] w fun e w'=>e=.returned (.string ⟨(Lib.repeatL s.data.toList c).toArray⟩)∧Below w.heap.size w w':=Any.strings_Repeat Tryz.lays105 Tryz.Builder_Extra_105 s c w hc hlen
def Tryz.lays113_ren:Go.Shelf.Ren:=⟨fun | 113=>252 | n=>n,fun | 28=>29 | 3=>3 | 4=>4 | 9=>9 | 20=>20 | 0=>0 | n=>n,fun | n=>n⟩
theorem Tryz.lays113:Go.Proofs.Lays.n113 Tryz.prog Tryz.lays113_ren:={
 mixed:=by kernel_rfl
 f113:=Tryz.func252.trans (congrArg some (by kernel_rfl))
 t0:=Tryz.underlying0
 a0:=Tryz.isAgg0
 z0:=Tryz.sizeOf0
 v0:=Tryz.zeroValue0
 t3:=Tryz.underlying3
 a3:=Tryz.isAgg3
 z3:=Tryz.sizeOf3
 v3:=Tryz.zeroValue3
 t4:=Tryz.underlying4
 a4:=Tryz.isAgg4
 z4:=Tryz.sizeOf4
 v4:=Tryz.zeroValue4
 t9:=Tryz.underlying9
 a9:=Tryz.isAgg9
 z9:=Tryz.sizeOf9
 v9:=Tryz.zeroValue9
 t20:=Tryz.underlying20
 a20:=Tryz.isAgg20
 z20:=Tryz.sizeOf20
 v20:=Tryz.zeroValue20
 t28:=Tryz.underlying29
 a28:=Tryz.isAgg29
 z28:=Tryz.sizeOf29
 v28:=Tryz.zeroValue29 }
open Go.Lib in
theorem Tryz.slices_Max_int (b off n c:Nat) (zs:List Int) (w:World) (hn:0<n) (hz:n<=zs.length) (hbig:n<=9223372036854775807) (hc:∀ j,j<zs.length->w.cell? ⟨b,off+j,none⟩=some (.int .i64 (zs.getD j 0))) :
  Calls Tryz.prog 252 #[.slice (some ⟨b,off,none⟩) n c] w fun e w'=>e=.returned (.int .i64 (Lib.maxOf (zs.take n)))∧w'=w:=Any.slices_Max_int Tryz.lays113 b off n c zs w hn hz hbig hc
def Tryz.lays114_ren:Go.Shelf.Ren:=⟨fun | 114=>251 | n=>n,fun | 28=>29 | 3=>3 | 4=>4 | 9=>9 | 20=>20 | 0=>0 | n=>n,fun | n=>n⟩
theorem Tryz.lays114:Go.Proofs.Lays.n114 Tryz.prog Tryz.lays114_ren:={
 mixed:=by kernel_rfl
 f114:=Tryz.func251.trans (congrArg some (by kernel_rfl))
 t0:=Tryz.underlying0
 a0:=Tryz.isAgg0
 z0:=Tryz.sizeOf0
 v0:=Tryz.zeroValue0
 t3:=Tryz.underlying3
 a3:=Tryz.isAgg3
 z3:=Tryz.sizeOf3
 v3:=Tryz.zeroValue3
 t4:=Tryz.underlying4
 a4:=Tryz.isAgg4
 z4:=Tryz.sizeOf4
 v4:=Tryz.zeroValue4
 t9:=Tryz.underlying9
 a9:=Tryz.isAgg9
 z9:=Tryz.sizeOf9
 v9:=Tryz.zeroValue9
 t20:=Tryz.underlying20
 a20:=Tryz.isAgg20
 z20:=Tryz.sizeOf20
 v20:=Tryz.zeroValue20
 t28:=Tryz.underlying29
 a28:=Tryz.isAgg29
 z28:=Tryz.sizeOf29
 v28:=Tryz.zeroValue29 }
open Go.Lib in
theorem Tryz.slices_Min_int (b off n c:Nat) (zs:List Int) (w:World) (hn:0<n) (hz:n<=zs.length) (hbig:n<=9223372036854775807) (hc:∀ j,j<zs.length->w.cell? ⟨b,off+j,none⟩=some (.int .i64 (zs.getD j 0))) :
  Calls Tryz.prog 251 #[.slice (some ⟨b,off,none⟩) n c] w fun e w'=>e=.returned (.int .i64 (Lib.minOf (zs.take n)))∧w'=w:=Any.slices_Min_int Tryz.lays114 b off n c zs w hn hz hbig hc
def Tryz.lays111_ren:Go.Shelf.Ren:=⟨fun | 111=>60 | n=>n,fun | 28=>29 | 3=>3 | 4=>4 | 0=>0 | n=>n,fun | n=>n⟩
theorem Tryz.lays111:Go.Proofs.Lays.n111 Tryz.prog Tryz.lays111_ren:={
 mixed:=by kernel_rfl
 f111:=Tryz.func60.trans (congrArg some (by kernel_rfl))
 t0:=Tryz.underlying0
 a0:=Tryz.isAgg0
 z0:=Tryz.sizeOf0
 v0:=Tryz.zeroValue0
 t3:=Tryz.underlying3
 a3:=Tryz.isAgg3
 z3:=Tryz.sizeOf3
 v3:=Tryz.zeroValue3
 t4:=Tryz.underlying4
 a4:=Tryz.isAgg4
 z4:=Tryz.sizeOf4
 v4:=Tryz.zeroValue4
 t28:=Tryz.underlying29
 a28:=Tryz.isAgg29
 z28:=Tryz.sizeOf29
 v28:=Tryz.zeroValue29 }
open Go.RowKit Go.Lib in
theorem Tryz.slices_Equal_int (b1 o1 n c b2 o2 m d:Nat) (xs ys:List Int) (w:World) (hx:n<=xs.length) (hy:m<=ys.length) (hbig:n<=9223372036854775807) (hbig2:m<=9223372036854775807) (hc1:∀ j,j<xs.length->w.cell? ⟨b1,o1+j,none⟩=some (.int .i64 (xs.getD j 0))) (hc2:∀ j,j<ys.length->w.cell? ⟨b2,o2+j,none⟩=some (.int .i64 (ys.getD j 0))) :
  Calls Tryz.prog 60 #[.slice (some ⟨b1,o1,none⟩) n c,.slice (some ⟨b2,o2,none⟩) m d] w fun e w'=>e=.returned (.bool (xs.take n==ys.take m))∧∃ q,w'=w.drewN q:=Any.slices_Equal_int Tryz.lays111 b1 o1 n c b2 o2 m d xs ys w hx hy hbig hbig2 hc1 hc2
open Go.RowKit Go.Lib in
theorem Tryz.slices_Equal_int_empty (a1 a2:Option Addr) (c m d:Nat) (w:World) (hbig2:m<=9223372036854775807) :
  Calls Tryz.prog 60 #[.slice a1 0 c,.slice a2 m d] w fun e w'=>e=.returned (.bool (decide (m=0)))∧w'=w:=Any.slices_Equal_int_empty Tryz.lays111 a1 a2 c m d w hbig2
open Go.RowKit Go.Lib in
theorem Tryz.slices_Equal_int_lens (a1 a2:Option Addr) (n c m d:Nat) (w:World) (hnm:n≠m) :
  Calls Tryz.prog 60 #[.slice a1 n c,.slice a2 m d] w fun e w'=>e=.returned (.bool false)∧w'=w:=Any.slices_Equal_int_lens Tryz.lays111 a1 a2 n c m d w hnm
end Go.Proofs
