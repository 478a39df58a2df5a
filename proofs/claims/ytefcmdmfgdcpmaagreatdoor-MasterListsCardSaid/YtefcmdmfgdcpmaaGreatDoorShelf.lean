/-
 DERIVED: THE SHELF's CONTRACTS AT THIS DUMP,IN PLAIN WORDS (tools/lay-plain.mjs out of 'TryzShelf.lean',which tools/lay-shelf.mjs wrote): THE SAME DECLARATIONS UNDER THE SAME NAMES: 'import','namespace','open','def','theorem' AND NOTHING ELSE: no command of the shelf's: FOR A HAND-IN. Each laying: the table of numbers ('.._ren') and one theorem,a field a fact of the dump's own or the kernel's comparison;each contract: ONE APPLICATION.
-/
import Derived.Shelf.Strings.Builder1
import Derived.Shelf.Strings.Builder2
import Derived.Shelf.Strings.OnBuilder
import Derived.Shelf.Small.Utf8
import Derived.Shelf.Small.Bits
import Derived.Shelf.Small.Strs
import Derived.Shelf.Strings.BuilderF
import Derived.Shelf.Strings.BuilderK
import Derived.Shelf.Strings.Builder2Cap
import Derived.Shelf.Strconv.Itoa0
import Derived.Shelf.Strconv.Itoa1
import Derived.Shelf.LaysM
import Derived.Shelf.Strconv.Itoa2
import Derived.Shelf.Strconv.Itoa3
import Derived.Shelf.Strings.Search1
import Derived.Shelf.Strings.Search2
import Derived.Shelf.Strings.Search3
import Derived.Shelf.Strings.Count
import Derived.Shelf.Strings.Shaped
import Derived.Shelf.Sort.Plain
import Derived.Shelf.Strings.LastIndex
import Derived.Shelf.Strings.Prefix
import Derived.Shelf.Strings.Split
import Derived.Shelf.Strings.SplitShaped
import Derived.Shelf.Strings.Runes
import Derived.Shelf.Strings.AsciiSet
import Derived.Shelf.Bits.Mul64
import Derived.Shelf.Strings.Repeat
import Derived.Shelf.Unicode.DecodeSlow
import Derived.Shelf.Strings.BuilderCap
import Derived.Shelf.Slices.Turned
import Derived.Shelf.Slices.Equal
import Derived.Ground.Names2Prog
import Derived.Shelf.Slices.CompactI
import Derived.Shelf.Slices.Empties2
import Derived.Ground.PaProg
import Derived.Shelf.Path.Small
import Derived.Test.YtefcmdmfgdcpmaaGreatDoorProg
namespace Go.Proofs
open Go.Shelf
def Tryz.lays156_ren:Go.Shelf.Ren:=⟨fun | 156=>104 | 165=>162 | 166=>163 | 169=>164 | 240=>217 | 241=>218 | 276=>262 | 277=>263 | n=>n,fun | 31=>107 | 9=>9 | 3=>3 | 4=>4 | 0=>0 | 20=>20 | 72=>215 | 76=>219 | 70=>213 | 37=>157 | 75=>218 | 127=>254 | 164=>278 | 5=>5 | 80=>221 | n=>n,fun | n=>n⟩
theorem Tryz.lays156:Go.Proofs.Lays.n156 Tryz.prog Tryz.lays156_ren:={
 mixed:=by kernel_rfl
 f156:=Tryz.func104.trans (congrArg some (by kernel_rfl))
 f165:=Tryz.func162.trans (congrArg some (by kernel_rfl))
 f166:=Tryz.func163.trans (congrArg some (by kernel_rfl))
 f169:=Tryz.func164.trans (congrArg some (by kernel_rfl))
 f240:=Tryz.func217.trans (congrArg some (by kernel_rfl))
 f241:=Tryz.func218.trans (congrArg some (by kernel_rfl))
 f276:=Tryz.func262.trans (congrArg some (by kernel_rfl))
 f277:=Tryz.func263.trans (congrArg some (by kernel_rfl))
 t0:=Tryz.underlying0
 a0:=Tryz.isAgg0
 z0:=Tryz.sizeOf0
 v0:=Tryz.zeroValue0
 t3:=Tryz.underlying3
 a3:=Tryz.isAgg3
 z3:=Tryz.sizeOf3
 v3:=Tryz.zeroValue3
 t4:=Tryz.underlying4
 a4:=Tryz.isAgg4
 z4:=Tryz.sizeOf4
 v4:=Tryz.zeroValue4
 t9:=Tryz.underlying9
 a9:=Tryz.isAgg9
 z9:=Tryz.sizeOf9
 v9:=Tryz.zeroValue9
 t20:=Tryz.underlying20
 a20:=Tryz.isAgg20
 z20:=Tryz.sizeOf20
 v20:=Tryz.zeroValue20
 t31:=Tryz.underlying107
 a31:=Tryz.isAgg107
 z31:=Tryz.sizeOf107
 v31:=Tryz.zeroValue107
 t37:=Tryz.underlying157
 a37:=Tryz.isAgg157
 z37:=Tryz.sizeOf157
 v37:=Tryz.zeroValue157
 t70:=Tryz.underlying213
 a70:=Tryz.isAgg213
 z70:=Tryz.sizeOf213
 v70:=Tryz.zeroValue213
 t72:=Tryz.underlying215
 a72:=Tryz.isAgg215
 z72:=Tryz.sizeOf215
 v72:=Tryz.zeroValue215
 t75:=Tryz.underlying218
 a75:=Tryz.isAgg218
 z75:=Tryz.sizeOf218
 v75:=Tryz.zeroValue218
 t76:=Tryz.underlying219
 a76:=Tryz.isAgg219
 z76:=Tryz.sizeOf219
 v76:=Tryz.zeroValue219
 t127:=Tryz.underlying254
 a127:=Tryz.isAgg254
 z127:=Tryz.sizeOf254
 v127:=Tryz.zeroValue254
 t164:=Tryz.underlying278
 a164:=Tryz.isAgg278
 z164:=Tryz.sizeOf278
 v164:=Tryz.zeroValue278 }
theorem Tryz.Builder_Extra_156:Builder.Extra Tryz.prog Tryz.lays156_ren:={
 sizeBuilder:=by kernel_rfl
 liesBuilder:=by kernel_rfl
 t5:=Tryz.underlying5
 a5:=Tryz.isAgg5
 z5:=Tryz.sizeOf5
 v5:=Tryz.zeroValue5
 infoByte:=by kernel_rfl
 cellsByte:=by kernel_rfl
 sizeByte:=by kernel_rfl
 neB5:=by decide }
open Go.RowKit in
theorem Tryz.strings_Join_none (a:Option Addr) (c:Nat) (sep:ByteArray) (w:World) :
  Calls Tryz.prog 104 #[.slice a 0 c,.string sep] w fun e w'=>e=.returned (.string ⟨#[]⟩)∧w'=w:=Any.strings_Join_none Tryz.lays156 Tryz.Builder_Extra_156 a c sep w
open Go.RowKit in
theorem Tryz.strings_Join (bk o c:Nat) (xs:List ByteArray) (sep:ByteArray) (w:World) (hcells:∀ (j:Nat) x,xs[j]?=some x->w.cell? ⟨bk,o+j,none⟩=some (.string x)) (hbk:bk<w.heap.size) (hN:xs.length<=140737488355328) (hcap:xs.length<=c) (hlen:(Lib.join (xs.map (·.data.toList)) sep.data.toList).length<=140737488355328) :
  Calls Tryz.prog 104 #[.slice (some ⟨bk,o,none⟩) xs.length c,.string sep] w fun e w'=>e=.returned (.string ⟨(Lib.join (xs.map (·.data.toList)) sep.data.toList).toArray⟩)∧Below w.heap.size w w':=Any.strings_Join Tryz.lays156 Tryz.Builder_Extra_156 bk o c xs sep w hcells hbk hN hcap hlen
def Tryz.lays106_ren:Go.Shelf.Ren:=⟨fun | 106=>60 | 213=>112 | 265=>170 | n=>n,fun | 9=>9 | 3=>3 | n=>n,fun | n=>n⟩
theorem Tryz.lays106:Go.Proofs.Lays.n106 Tryz.prog Tryz.lays106_ren:={
 mixed:=by kernel_rfl
 f106:=Tryz.func60.trans (congrArg some (by kernel_rfl))
 f213:=Tryz.func112.trans (congrArg some (by kernel_rfl))
 f265:=Tryz.func170.trans (congrArg some (by kernel_rfl))
 t3:=Tryz.underlying3
 a3:=Tryz.isAgg3
 z3:=Tryz.sizeOf3
 v3:=Tryz.zeroValue3
 t9:=Tryz.underlying9
 a9:=Tryz.isAgg9
 z9:=Tryz.sizeOf9
 v9:=Tryz.zeroValue9 }
open Go.RowKit in
theorem Tryz.strings_Compare (a b:ByteArray) (w:World) :
  Calls Tryz.prog 60 #[.string a,.string b] w fun e w'=>e=.returned (.int .i64 (Lib.compareBytes a.data.toList b.data.toList))∧w'=w:=Any.strings_Compare Tryz.lays106 a b w
def Tryz.laysM171_ren:Go.Shelf.Ren:=⟨fun | 171=>258 | 243=>283 | 246=>290 | 283=>296 | 284=>297 | 285=>298 | 286=>299 | 129=>141 | 317=>302 | 318=>303 | 319=>304 | 320=>305 | 337=>306 | 338=>307 | n=>n,fun | 3=>3 | 9=>9 | 2=>2 | 4=>4 | 171=>310 | 0=>0 | 53=>191 | 37=>157 | 5=>5 | 173=>312 | 212=>318 | 51=>189 | 20=>20 | 213=>319 | 46=>129 | 232=>320 | 233=>321 | n=>n,fun | 17=>3 | 18=>4 | 19=>5 | n=>n⟩
theorem Tryz.laysM171:Go.Proofs.LaysM.n171 Tryz.prog Tryz.laysM171_ren:={
 mixed:=by kernel_rfl
 f129:=Tryz.func141.trans (congrArg some (by kernel_rfl))
 f171:=Tryz.func258.trans (congrArg some (by kernel_rfl))
 f243:=Tryz.func283.trans (congrArg some (by kernel_rfl))
 f246:=Tryz.func290.trans (congrArg some (by kernel_rfl))
 f283:=Tryz.func296.trans (congrArg some (by kernel_rfl))
 f284:=Tryz.func297.trans (congrArg some (by kernel_rfl))
 f285:=Tryz.func298.trans (congrArg some (by kernel_rfl))
 f286:=Tryz.func299.trans (congrArg some (by kernel_rfl))
 f317:=Tryz.func302.trans (congrArg some (by kernel_rfl))
 f318:=Tryz.func303.trans (congrArg some (by kernel_rfl))
 f319:=Tryz.func304.trans (congrArg some (by kernel_rfl))
 f320:=Tryz.func305.trans (congrArg some (by kernel_rfl))
 f337:=Tryz.func306.trans (congrArg some (by kernel_rfl))
 f338:=Tryz.func307.trans (congrArg some (by kernel_rfl))
 t0:=Tryz.underlying0
 a0:=Tryz.isAgg0
 z0:=Tryz.sizeOf0
 v0:=Tryz.zeroValue0
 t2:=Tryz.underlying2
 a2:=Tryz.isAgg2
 z2:=Tryz.sizeOf2
 v2:=Tryz.zeroValue2
 t3:=Tryz.underlying3
 a3:=Tryz.isAgg3
 z3:=Tryz.sizeOf3
 v3:=Tryz.zeroValue3
 t4:=Tryz.underlying4
 a4:=Tryz.isAgg4
 z4:=Tryz.sizeOf4
 v4:=Tryz.zeroValue4
 t5:=Tryz.underlying5
 a5:=Tryz.isAgg5
 z5:=Tryz.sizeOf5
 v5:=Tryz.zeroValue5
 t9:=Tryz.underlying9
 a9:=Tryz.isAgg9
 z9:=Tryz.sizeOf9
 v9:=Tryz.zeroValue9
 t20:=Tryz.underlying20
 a20:=Tryz.isAgg20
 z20:=Tryz.sizeOf20
 v20:=Tryz.zeroValue20
 t37:=Tryz.underlying157
 a37:=Tryz.isAgg157
 z37:=Tryz.sizeOf157
 v37:=Tryz.zeroValue157
 t46:=Tryz.underlying129
 a46:=Tryz.isAgg129
 z46:=Tryz.sizeOf129
 v46:=Tryz.zeroValue129
 t51:=Tryz.underlying189
 a51:=Tryz.isAgg189
 z51:=Tryz.sizeOf189
 v51:=Tryz.zeroValue189
 t53:=Tryz.underlying191
 a53:=Tryz.isAgg191
 z53:=Tryz.sizeOf191
 v53:=Tryz.zeroValue191
 t171:=Tryz.underlying310
 a171:=Tryz.isAgg310
 z171:=Tryz.sizeOf310
 v171:=Tryz.zeroValue310
 t173:=Tryz.underlying312
 a173:=Tryz.isAgg312
 z173:=Tryz.sizeOf312
 v173:=Tryz.zeroValue312
 t212:=Tryz.underlying318
 a212:=Tryz.isAgg318
 z212:=Tryz.sizeOf318
 v212:=Tryz.zeroValue318
 t213:=Tryz.underlying319
 a213:=Tryz.isAgg319
 z213:=Tryz.sizeOf319
 t232:=Tryz.underlying320
 a232:=Tryz.isAgg320
 z232:=Tryz.sizeOf320
 v232:=Tryz.zeroValue320
 t233:=Tryz.underlying321
 a233:=Tryz.isAgg321
 z233:=Tryz.sizeOf321
 v233:=Tryz.zeroValue321
 g17:=by kernel_rfl
 g18:=by kernel_rfl
 g19:=by kernel_rfl
 i0:=by kernel_rfl
 i2:=by kernel_rfl
 i3:=by kernel_rfl
 i4:=by kernel_rfl
 i5:=by kernel_rfl
 i9:=by kernel_rfl
 i20:=by kernel_rfl
 i37:=by kernel_rfl
 i46:=by kernel_rfl
 i51:=by kernel_rfl
 i53:=by kernel_rfl
 i171:=by kernel_rfl
 i173:=by kernel_rfl
 i212:=by kernel_rfl
 i232:=by kernel_rfl
 i233:=by kernel_rfl
 m17:=by kernel_rfl
 m18:=by kernel_rfl
 m19:=by kernel_rfl }
open Go.RowKit Go.Sort Go.Lib in
theorem Tryz.strconv_Itoa (n : Int) (h0 : -9223372036854775808 ≤ n) (h1 : n ≤ 9223372036854775807) (w : World) (htab : Lib.TabIs Tryz.prog w "internal/strconv.uint64pow10" .u64 Lib.pow10Tab) :
  Calls Tryz.prog 258 #[.int .i64 n] w fun e w'=>e=.returned (.string ⟨(Lib.itoa n).toArray⟩)∧∃ k os,w'=grow (w.drewN k) os:=Any.strconv_Itoa Tryz.laysM171 n h0 h1 w htab
def Tryz.lays144_ren:Go.Shelf.Ren:=⟨fun | 144=>50 | 143=>106 | 219=>165 | 217=>219 | 225=>220 | 224=>221 | 267=>222 | 266=>264 | 314=>265 | n=>n,fun | 9=>9 | 4=>4 | 3=>3 | 5=>5 | 46=>129 | 146=>267 | 51=>189 | n=>n,fun | 1=>0 | n=>n⟩
theorem Tryz.lays144:Go.Proofs.Lays.n144 Tryz.prog Tryz.lays144_ren:={
 mixed:=by kernel_rfl
 f143:=Tryz.func106.trans (congrArg some (by kernel_rfl))
 f144:=Tryz.func50.trans (congrArg some (by kernel_rfl))
 f217:=Tryz.func219.trans (congrArg some (by kernel_rfl))
 f219:=Tryz.func165.trans (congrArg some (by kernel_rfl))
 f224:=Tryz.func221.trans (congrArg some (by kernel_rfl))
 f225:=Tryz.func220.trans (congrArg some (by kernel_rfl))
 f266:=Tryz.func264.trans (congrArg some (by kernel_rfl))
 f267:=Tryz.func222.trans (congrArg some (by kernel_rfl))
 f314:=Tryz.func265.trans (congrArg some (by kernel_rfl))
 t3:=Tryz.underlying3
 a3:=Tryz.isAgg3
 z3:=Tryz.sizeOf3
 v3:=Tryz.zeroValue3
 t4:=Tryz.underlying4
 a4:=Tryz.isAgg4
 z4:=Tryz.sizeOf4
 v4:=Tryz.zeroValue4
 t5:=Tryz.underlying5
 a5:=Tryz.isAgg5
 z5:=Tryz.sizeOf5
 v5:=Tryz.zeroValue5
 t9:=Tryz.underlying9
 a9:=Tryz.isAgg9
 z9:=Tryz.sizeOf9
 v9:=Tryz.zeroValue9
 t46:=Tryz.underlying129
 a46:=Tryz.isAgg129
 z46:=Tryz.sizeOf129
 v46:=Tryz.zeroValue129
 t51:=Tryz.underlying189
 a51:=Tryz.isAgg189
 z51:=Tryz.sizeOf189
 v51:=Tryz.zeroValue189
 t146:=Tryz.underlying267
 a146:=Tryz.isAgg267
 z146:=Tryz.sizeOf267
 v146:=Tryz.zeroValue267
 g1:=by kernel_rfl }
open Go.RowKit Go.Lib in
theorem Tryz.strings_Contains_one (s:ByteArray) (c:UInt8) (w:World) :
  Calls Tryz.prog 50 #[.string s,.string ⟨#[c]⟩] w fun e w'=>e=.returned (.bool (decide (0<=Lib.indexByte s.data.toList c)))∧w'=w:=Any.strings_Contains_one Tryz.lays144 s c w
open Go.RowKit Go.Lib in
theorem Tryz.strings_Contains (s sub:ByteArray) (m:Int) (w:World) (hs:s.size<4294967281) (hm:w.cell? ⟨0,0,none⟩=some (.int .i64 m)) :
  Calls Tryz.prog 50 #[.string s,.string sub] w fun e w'=>e=.returned (.bool (Lib.contains s.data.toList sub.data.toList))∧w'=w:=Any.strings_Contains Tryz.lays144 s sub m w hs hm
def Tryz.lays138_ren:Go.Shelf.Ren:=⟨fun | 138=>88 | 195=>154 | 218=>155 | 143=>106 | 219=>165 | 217=>219 | 225=>220 | 224=>221 | 267=>222 | 266=>264 | 314=>265 | n=>n,fun | 9=>9 | 3=>3 | 4=>4 | 5=>5 | 0=>0 | 46=>129 | 146=>267 | 51=>189 | n=>n,fun | 1=>0 | n=>n⟩
theorem Tryz.lays138:Go.Proofs.Lays.n138 Tryz.prog Tryz.lays138_ren:={
 mixed:=by kernel_rfl
 f138:=Tryz.func88.trans (congrArg some (by kernel_rfl))
 f143:=Tryz.func106.trans (congrArg some (by kernel_rfl))
 f195:=Tryz.func154.trans (congrArg some (by kernel_rfl))
 f217:=Tryz.func219.trans (congrArg some (by kernel_rfl))
 f218:=Tryz.func155.trans (congrArg some (by kernel_rfl))
 f219:=Tryz.func165.trans (congrArg some (by kernel_rfl))
 f224:=Tryz.func221.trans (congrArg some (by kernel_rfl))
 f225:=Tryz.func220.trans (congrArg some (by kernel_rfl))
 f266:=Tryz.func264.trans (congrArg some (by kernel_rfl))
 f267:=Tryz.func222.trans (congrArg some (by kernel_rfl))
 f314:=Tryz.func265.trans (congrArg some (by kernel_rfl))
 t0:=Tryz.underlying0
 a0:=Tryz.isAgg0
 z0:=Tryz.sizeOf0
 v0:=Tryz.zeroValue0
 t3:=Tryz.underlying3
 a3:=Tryz.isAgg3
 z3:=Tryz.sizeOf3
 v3:=Tryz.zeroValue3
 t4:=Tryz.underlying4
 a4:=Tryz.isAgg4
 z4:=Tryz.sizeOf4
 v4:=Tryz.zeroValue4
 t5:=Tryz.underlying5
 a5:=Tryz.isAgg5
 z5:=Tryz.sizeOf5
 v5:=Tryz.zeroValue5
 t9:=Tryz.underlying9
 a9:=Tryz.isAgg9
 z9:=Tryz.sizeOf9
 v9:=Tryz.zeroValue9
 t46:=Tryz.underlying129
 a46:=Tryz.isAgg129
 z46:=Tryz.sizeOf129
 v46:=Tryz.zeroValue129
 t51:=Tryz.underlying189
 a51:=Tryz.isAgg189
 z51:=Tryz.sizeOf189
 v51:=Tryz.zeroValue189
 t146:=Tryz.underlying267
 a146:=Tryz.isAgg267
 z146:=Tryz.sizeOf267
 v146:=Tryz.zeroValue267
 g1:=by kernel_rfl }
open Go.RowKit Go.Lib in
theorem Tryz.strings_Count_one (s:ByteArray) (c:UInt8) (w:World) :
  Calls Tryz.prog 88 #[.string s,.string ⟨#[c]⟩] w fun e w'=>e=.returned (.int .i64 (Lib.countByte s.data.toList c))∧w'=w:=Any.strings_Count_one Tryz.lays138 s c w
def Tryz.laysM144_ren:Go.Shelf.Ren:=⟨fun | 144=>50 | 143=>106 | 219=>165 | 217=>219 | 225=>220 | 224=>221 | 267=>222 | 266=>264 | 314=>265 | n=>n,fun | 9=>9 | 4=>4 | 3=>3 | 5=>5 | 46=>129 | 146=>267 | 51=>189 | n=>n,fun | 1=>0 | n=>n⟩
theorem Tryz.laysM144:Go.Proofs.LaysM.n144 Tryz.prog Tryz.laysM144_ren:={
 mixed:=by kernel_rfl
 f143:=Tryz.func106.trans (congrArg some (by kernel_rfl))
 f144:=Tryz.func50.trans (congrArg some (by kernel_rfl))
 f217:=Tryz.func219.trans (congrArg some (by kernel_rfl))
 f219:=Tryz.func165.trans (congrArg some (by kernel_rfl))
 f224:=Tryz.func221.trans (congrArg some (by kernel_rfl))
 f225:=Tryz.func220.trans (congrArg some (by kernel_rfl))
 f266:=Tryz.func264.trans (congrArg some (by kernel_rfl))
 f267:=Tryz.func222.trans (congrArg some (by kernel_rfl))
 f314:=Tryz.func265.trans (congrArg some (by kernel_rfl))
 t3:=Tryz.underlying3
 a3:=Tryz.isAgg3
 z3:=Tryz.sizeOf3
 v3:=Tryz.zeroValue3
 t4:=Tryz.underlying4
 a4:=Tryz.isAgg4
 z4:=Tryz.sizeOf4
 v4:=Tryz.zeroValue4
 t5:=Tryz.underlying5
 a5:=Tryz.isAgg5
 z5:=Tryz.sizeOf5
 v5:=Tryz.zeroValue5
 t9:=Tryz.underlying9
 a9:=Tryz.isAgg9
 z9:=Tryz.sizeOf9
 v9:=Tryz.zeroValue9
 t46:=Tryz.underlying129
 a46:=Tryz.isAgg129
 z46:=Tryz.sizeOf129
 v46:=Tryz.zeroValue129
 t51:=Tryz.underlying189
 a51:=Tryz.isAgg189
 z51:=Tryz.sizeOf189
 v51:=Tryz.zeroValue189
 t146:=Tryz.underlying267
 a146:=Tryz.isAgg267
 z146:=Tryz.sizeOf267
 v146:=Tryz.zeroValue267
 g1:=by kernel_rfl
 i3:=by kernel_rfl
 i4:=by kernel_rfl
 i5:=by kernel_rfl
 i9:=by kernel_rfl
 i46:=by kernel_rfl
 i51:=by kernel_rfl
 i146:=by kernel_rfl
 m1:=by kernel_rfl
 s1_3:=fun w h=>Go.Proofs.cell_of_shapedOpen_int (zero:=#[.int .i64 0]) (t:=3) h (of_decide_eq_true (by kernel_rfl)) (by kernel_rfl) rfl (by kernel_rfl) (by kernel_rfl) Tryz.underlying3 }
def Tryz.lays189_ren:Go.Shelf.Ren:=⟨fun | 189=>27 | 125=>72 | 257=>71 | 128=>140 | 129=>141 | 294=>131 | 295=>132 | 296=>133 | 297=>134 | 298=>135 | 299=>136 | 216=>137 | 300=>138 | 301=>139 | 328=>197 | 329=>198 | 330=>199 | 331=>200 | 332=>201 | 215=>202 | 343=>253 | n=>n,fun | 28=>27 | 3=>3 | 46=>129 | 0=>0 | 51=>189 | 53=>191 | 4=>4 | 183=>182 | 182=>181 | 131=>186 | 5=>5 | 9=>9 | 218=>241 | 222=>131 | 228=>271 | 229=>272 | n=>n,fun | n=>n⟩
theorem Tryz.lays189:Go.Proofs.Lays.n189 Tryz.prog Tryz.lays189_ren:={
 mixed:=by kernel_rfl
 f125:=Tryz.func72.trans (congrArg some (by kernel_rfl))
 f128:=Tryz.func140.trans (congrArg some (by kernel_rfl))
 f129:=Tryz.func141.trans (congrArg some (by kernel_rfl))
 f189:=Tryz.func27.trans (congrArg some (by kernel_rfl))
 f215:=Tryz.func202.trans (congrArg some (by kernel_rfl))
 f216:=Tryz.func137.trans (congrArg some (by kernel_rfl))
 f257:=Tryz.func71.trans (congrArg some (by kernel_rfl))
 f294:=Tryz.func131.trans (congrArg some (by kernel_rfl))
 f295:=Tryz.func132.trans (congrArg some (by kernel_rfl))
 f296:=Tryz.func133.trans (congrArg some (by kernel_rfl))
 f297:=Tryz.func134.trans (congrArg some (by kernel_rfl))
 f298:=Tryz.func135.trans (congrArg some (by kernel_rfl))
 f299:=Tryz.func136.trans (congrArg some (by kernel_rfl))
 f300:=Tryz.func138.trans (congrArg some (by kernel_rfl))
 f301:=Tryz.func139.trans (congrArg some (by kernel_rfl))
 f328:=Tryz.func197.trans (congrArg some (by kernel_rfl))
 f329:=Tryz.func198.trans (congrArg some (by kernel_rfl))
 f330:=Tryz.func199.trans (congrArg some (by kernel_rfl))
 f331:=Tryz.func200.trans (congrArg some (by kernel_rfl))
 f332:=Tryz.func201.trans (congrArg some (by kernel_rfl))
 f343:=Tryz.func253.trans (congrArg some (by kernel_rfl))
 t0:=Tryz.underlying0
 a0:=Tryz.isAgg0
 z0:=Tryz.sizeOf0
 v0:=Tryz.zeroValue0
 t3:=Tryz.underlying3
 a3:=Tryz.isAgg3
 z3:=Tryz.sizeOf3
 v3:=Tryz.zeroValue3
 t4:=Tryz.underlying4
 a4:=Tryz.isAgg4
 z4:=Tryz.sizeOf4
 v4:=Tryz.zeroValue4
 t5:=Tryz.underlying5
 a5:=Tryz.isAgg5
 z5:=Tryz.sizeOf5
 v5:=Tryz.zeroValue5
 t9:=Tryz.underlying9
 a9:=Tryz.isAgg9
 z9:=Tryz.sizeOf9
 v9:=Tryz.zeroValue9
 t28:=Tryz.underlying27
 a28:=Tryz.isAgg27
 z28:=Tryz.sizeOf27
 v28:=Tryz.zeroValue27
 t46:=Tryz.underlying129
 a46:=Tryz.isAgg129
 z46:=Tryz.sizeOf129
 v46:=Tryz.zeroValue129
 t51:=Tryz.underlying189
 a51:=Tryz.isAgg189
 z51:=Tryz.sizeOf189
 v51:=Tryz.zeroValue189
 t53:=Tryz.underlying191
 a53:=Tryz.isAgg191
 z53:=Tryz.sizeOf191
 v53:=Tryz.zeroValue191
 t131:=Tryz.underlying186
 a131:=Tryz.isAgg186
 z131:=Tryz.sizeOf186
 v131:=Tryz.zeroValue186
 t182:=Tryz.underlying181
 a182:=Tryz.isAgg181
 z182:=Tryz.sizeOf181
 v182:=Tryz.zeroValue181
 t183:=Tryz.underlying182
 a183:=Tryz.isAgg182
 z183:=Tryz.sizeOf182
 v183:=Tryz.zeroValue182
 t218:=Tryz.underlying241
 a218:=Tryz.isAgg241
 z218:=Tryz.sizeOf241
 v218:=Tryz.zeroValue241
 t222:=Tryz.underlying131
 a222:=Tryz.isAgg131
 z222:=Tryz.sizeOf131
 v222:=Tryz.zeroValue131
 t228:=Tryz.underlying271
 a228:=Tryz.isAgg271
 z228:=Tryz.sizeOf271
 v228:=Tryz.zeroValue271
 t229:=Tryz.underlying272
 a229:=Tryz.isAgg272
 z229:=Tryz.sizeOf272
 v229:=Tryz.zeroValue272 }
open Go.Sort Go.RowKit in
theorem Tryz.slices_Sort_int (blk off cap:Nat) (zs:List Int) (w:World) (hH:Holds (Value.int .i64) w blk off zs.toArray) (hblk:blk<w.heap.size) (hsz:zs.length<4611686018427387904) :
  Calls Tryz.prog 27 #[.slice (some ⟨blk,off,none⟩) zs.length cap] w fun e w' =>
   e=.returned (.tuple #[])∧∃ n os,w'=grow (putRow (Value.int .i64) (Sort.ahead w n) blk off (zs.mergeSort fun x y=>decide (x<=y)).toArray) os:=Any.slices_Sort_int Tryz.lays189 blk off cap zs w hH hblk hsz
def Tryz.lays149_ren:Go.Shelf.Ren:=⟨fun | 149=>153 | 222=>211 | n=>n,fun | 9=>9 | 5=>5 | 3=>3 | 4=>4 | n=>n,fun | n=>n⟩
theorem Tryz.lays149:Go.Proofs.Lays.n149 Tryz.prog Tryz.lays149_ren:={
 mixed:=by kernel_rfl
 f149:=Tryz.func153.trans (congrArg some (by kernel_rfl))
 f222:=Tryz.func211.trans (congrArg some (by kernel_rfl))
 t3:=Tryz.underlying3
 a3:=Tryz.isAgg3
 z3:=Tryz.sizeOf3
 v3:=Tryz.zeroValue3
 t4:=Tryz.underlying4
 a4:=Tryz.isAgg4
 z4:=Tryz.sizeOf4
 v4:=Tryz.zeroValue4
 t5:=Tryz.underlying5
 a5:=Tryz.isAgg5
 z5:=Tryz.sizeOf5
 v5:=Tryz.zeroValue5
 t9:=Tryz.underlying9
 a9:=Tryz.isAgg9
 z9:=Tryz.sizeOf9
 v9:=Tryz.zeroValue9 }
open Go.RowKit Go.Lib in
theorem Tryz.strings_LastIndexByte (s:ByteArray) (c:Int) (hs:s.size<4611686018427387904) (w:World) :
  Calls Tryz.prog 153 #[.string s,.int .u8 c] w fun e w'=>e=.returned (.int .i64 (Lib.lastIndexByte s c))∧w'=w:=Any.strings_LastIndexByte Tryz.lays149 s c hs w
def Tryz.lays99_ren:Go.Shelf.Ren:=⟨fun | 99=>194 | 206=>250 | n=>n,fun | 9=>9 | 4=>4 | 3=>3 | n=>n,fun | n=>n⟩
theorem Tryz.lays99:Go.Proofs.Lays.n99 Tryz.prog Tryz.lays99_ren:={
 mixed:=by kernel_rfl
 f99:=Tryz.func194.trans (congrArg some (by kernel_rfl))
 f206:=Tryz.func250.trans (congrArg some (by kernel_rfl))
 t3:=Tryz.underlying3
 a3:=Tryz.isAgg3
 z3:=Tryz.sizeOf3
 v3:=Tryz.zeroValue3
 t4:=Tryz.underlying4
 a4:=Tryz.isAgg4
 z4:=Tryz.sizeOf4
 v4:=Tryz.zeroValue4
 t9:=Tryz.underlying9
 a9:=Tryz.isAgg9
 z9:=Tryz.sizeOf9
 v9:=Tryz.zeroValue9 }
open Go.RowKit Go.Lib in
theorem Tryz.strings_HasPrefix (s p:ByteArray) (w:World) :
  Calls Tryz.prog 194 #[.string s,.string p] w fun e w'=>e=.returned (.bool (Lib.hasPrefix s.data.toList p.data.toList))∧w'=w:=Any.strings_HasPrefix Tryz.lays99 s p w
def Tryz.lays146_ren:Go.Shelf.Ren:=⟨fun | 146=>51 | 221=>107 | 268=>166 | 138=>88 | 143=>106 | 195=>154 | 197=>215 | 218=>155 | 219=>165 | 260=>259 | 217=>219 | 225=>220 | 224=>221 | 267=>222 | 266=>264 | 314=>265 | n=>n,fun | 9=>9 | 31=>107 | 3=>3 | 4=>4 | 0=>0 | 105=>208 | 21=>21 | 5=>5 | 46=>129 | 119=>290 | 139=>293 | 138=>292 | 146=>267 | 51=>189 | n=>n,fun | 1=>0 | 3=>1 | 4=>2 | n=>n⟩
theorem Tryz.lays146:Go.Proofs.Lays.n146 Tryz.prog Tryz.lays146_ren:={
 mixed:=by kernel_rfl
 f138:=Tryz.func88.trans (congrArg some (by kernel_rfl))
 f143:=Tryz.func106.trans (congrArg some (by kernel_rfl))
 f146:=Tryz.func51.trans (congrArg some (by kernel_rfl))
 f195:=Tryz.func154.trans (congrArg some (by kernel_rfl))
 f197:=Tryz.func215.trans (congrArg some (by kernel_rfl))
 f217:=Tryz.func219.trans (congrArg some (by kernel_rfl))
 f218:=Tryz.func155.trans (congrArg some (by kernel_rfl))
 f219:=Tryz.func165.trans (congrArg some (by kernel_rfl))
 f221:=Tryz.func107.trans (congrArg some (by kernel_rfl))
 f224:=Tryz.func221.trans (congrArg some (by kernel_rfl))
 f225:=Tryz.func220.trans (congrArg some (by kernel_rfl))
 f260:=Tryz.func259.trans (congrArg some (by kernel_rfl))
 f266:=Tryz.func264.trans (congrArg some (by kernel_rfl))
 f267:=Tryz.func222.trans (congrArg some (by kernel_rfl))
 f268:=Tryz.func166.trans (congrArg some (by kernel_rfl))
 f314:=Tryz.func265.trans (congrArg some (by kernel_rfl))
 t0:=Tryz.underlying0
 a0:=Tryz.isAgg0
 z0:=Tryz.sizeOf0
 v0:=Tryz.zeroValue0
 t3:=Tryz.underlying3
 a3:=Tryz.isAgg3
 z3:=Tryz.sizeOf3
 v3:=Tryz.zeroValue3
 t4:=Tryz.underlying4
 a4:=Tryz.isAgg4
 z4:=Tryz.sizeOf4
 v4:=Tryz.zeroValue4
 t5:=Tryz.underlying5
 a5:=Tryz.isAgg5
 z5:=Tryz.sizeOf5
 v5:=Tryz.zeroValue5
 t9:=Tryz.underlying9
 a9:=Tryz.isAgg9
 z9:=Tryz.sizeOf9
 v9:=Tryz.zeroValue9
 t21:=Tryz.underlying21
 a21:=Tryz.isAgg21
 z21:=Tryz.sizeOf21
 v21:=Tryz.zeroValue21
 t31:=Tryz.underlying107
 a31:=Tryz.isAgg107
 z31:=Tryz.sizeOf107
 v31:=Tryz.zeroValue107
 t46:=Tryz.underlying129
 a46:=Tryz.isAgg129
 z46:=Tryz.sizeOf129
 v46:=Tryz.zeroValue129
 t51:=Tryz.underlying189
 a51:=Tryz.isAgg189
 z51:=Tryz.sizeOf189
 v51:=Tryz.zeroValue189
 t105:=Tryz.underlying208
 a105:=Tryz.isAgg208
 z105:=Tryz.sizeOf208
 v105:=Tryz.zeroValue208
 t119:=Tryz.underlying290
 a119:=Tryz.isAgg290
 z119:=Tryz.sizeOf290
 t138:=Tryz.underlying292
 a138:=Tryz.isAgg292
 z138:=Tryz.sizeOf292
 v138:=Tryz.zeroValue292
 t139:=Tryz.underlying293
 a139:=Tryz.isAgg293
 z139:=Tryz.sizeOf293
 v139:=Tryz.zeroValue293
 t146:=Tryz.underlying267
 a146:=Tryz.isAgg267
 z146:=Tryz.sizeOf267
 v146:=Tryz.zeroValue267
 g1:=by kernel_rfl
 g3:=by kernel_rfl
 g4:=by kernel_rfl }
open Go.RowKit Go.Lib in
theorem Tryz.strings_Split (s sep:ByteArray) (m:Int) (w:World) (hs:s.size<4294967281) (hm:w.cell? ⟨0,0,none⟩=some (.int .i64 m)) (h1:1<=sep.size) :
  Calls Tryz.prog 51 #[.string s,.string sep] w fun e w' =>
   e=.returned (.slice (some ⟨w.heap.size,0,none⟩) (Lib.countB s sep+1) (Lib.countB s sep+1))∧w'=w.alloc (.cells ((Lib.splitB sep 0 (Lib.countB s sep) s).map Value.string).toArray 9):=Any.strings_Split Tryz.lays146 (by kernel_rfl) s sep m w hs hm h1
def Tryz.lays105_ren:Go.Shelf.Ren:=⟨fun | 105=>130 | 212=>195 | 99=>194 | 165=>162 | 166=>163 | 170=>196 | 169=>164 | 263=>251 | 264=>252 | 206=>250 | 240=>217 | 241=>218 | 276=>262 | 277=>263 | n=>n,fun | 9=>9 | 3=>3 | 4=>4 | 20=>20 | 0=>0 | 46=>129 | 109=>238 | 5=>5 | 72=>215 | 76=>219 | 51=>189 | 146=>267 | 53=>191 | 148=>269 | 70=>213 | 37=>157 | 75=>218 | 127=>254 | 164=>278 | 80=>221 | n=>n,fun | n=>n⟩
theorem Tryz.lays105:Go.Proofs.Lays.n105 Tryz.prog Tryz.lays105_ren:={
 mixed:=by kernel_rfl
 f99:=Tryz.func194.trans (congrArg some (by kernel_rfl))
 f105:=Tryz.func130.trans (congrArg some (by kernel_rfl))
 f165:=Tryz.func162.trans (congrArg some (by kernel_rfl))
 f166:=Tryz.func163.trans (congrArg some (by kernel_rfl))
 f169:=Tryz.func164.trans (congrArg some (by kernel_rfl))
 f170:=Tryz.func196.trans (congrArg some (by kernel_rfl))
 f206:=Tryz.func250.trans (congrArg some (by kernel_rfl))
 f212:=Tryz.func195.trans (congrArg some (by kernel_rfl))
 f240:=Tryz.func217.trans (congrArg some (by kernel_rfl))
 f241:=Tryz.func218.trans (congrArg some (by kernel_rfl))
 f263:=Tryz.func251.trans (congrArg some (by kernel_rfl))
 f264:=Tryz.func252.trans (congrArg some (by kernel_rfl))
 f276:=Tryz.func262.trans (congrArg some (by kernel_rfl))
 f277:=Tryz.func263.trans (congrArg some (by kernel_rfl))
 t0:=Tryz.underlying0
 a0:=Tryz.isAgg0
 z0:=Tryz.sizeOf0
 v0:=Tryz.zeroValue0
 t3:=Tryz.underlying3
 a3:=Tryz.isAgg3
 z3:=Tryz.sizeOf3
 v3:=Tryz.zeroValue3
 t4:=Tryz.underlying4
 a4:=Tryz.isAgg4
 z4:=Tryz.sizeOf4
 v4:=Tryz.zeroValue4
 t5:=Tryz.underlying5
 a5:=Tryz.isAgg5
 z5:=Tryz.sizeOf5
 v5:=Tryz.zeroValue5
 t9:=Tryz.underlying9
 a9:=Tryz.isAgg9
 z9:=Tryz.sizeOf9
 v9:=Tryz.zeroValue9
 t20:=Tryz.underlying20
 a20:=Tryz.isAgg20
 z20:=Tryz.sizeOf20
 v20:=Tryz.zeroValue20
 t37:=Tryz.underlying157
 a37:=Tryz.isAgg157
 z37:=Tryz.sizeOf157
 v37:=Tryz.zeroValue157
 t46:=Tryz.underlying129
 a46:=Tryz.isAgg129
 z46:=Tryz.sizeOf129
 v46:=Tryz.zeroValue129
 t51:=Tryz.underlying189
 a51:=Tryz.isAgg189
 z51:=Tryz.sizeOf189
 v51:=Tryz.zeroValue189
 t53:=Tryz.underlying191
 a53:=Tryz.isAgg191
 z53:=Tryz.sizeOf191
 v53:=Tryz.zeroValue191
 t70:=Tryz.underlying213
 a70:=Tryz.isAgg213
 z70:=Tryz.sizeOf213
 v70:=Tryz.zeroValue213
 t72:=Tryz.underlying215
 a72:=Tryz.isAgg215
 z72:=Tryz.sizeOf215
 v72:=Tryz.zeroValue215
 t75:=Tryz.underlying218
 a75:=Tryz.isAgg218
 z75:=Tryz.sizeOf218
 v75:=Tryz.zeroValue218
 t76:=Tryz.underlying219
 a76:=Tryz.isAgg219
 z76:=Tryz.sizeOf219
 v76:=Tryz.zeroValue219
 t109:=Tryz.underlying238
 a109:=Tryz.isAgg238
 z109:=Tryz.sizeOf238
 v109:=Tryz.zeroValue238
 t127:=Tryz.underlying254
 a127:=Tryz.isAgg254
 z127:=Tryz.sizeOf254
 v127:=Tryz.zeroValue254
 t146:=Tryz.underlying267
 a146:=Tryz.isAgg267
 z146:=Tryz.sizeOf267
 v146:=Tryz.zeroValue267
 t148:=Tryz.underlying269
 a148:=Tryz.isAgg269
 z148:=Tryz.sizeOf269
 v148:=Tryz.zeroValue269
 t164:=Tryz.underlying278
 a164:=Tryz.isAgg278
 z164:=Tryz.sizeOf278
 v164:=Tryz.zeroValue278 }
theorem Tryz.Builder_Extra_105:Builder.Extra Tryz.prog Tryz.lays105_ren:={
 sizeBuilder:=by kernel_rfl
 liesBuilder:=by kernel_rfl
 t5:=Tryz.underlying5
 a5:=Tryz.isAgg5
 z5:=Tryz.sizeOf5
 v5:=Tryz.zeroValue5
 infoByte:=by kernel_rfl
 cellsByte:=by kernel_rfl
 sizeByte:=by kernel_rfl
 neB5:=by decide }
open Go.RowKit Go.Lib in
theorem Tryz.strings_Repeat (s:ByteArray) (c:Nat) (w:World) (hc:c<=9223372036854775807) (hlen:s.size*c<=140737488355328) :
  Calls Tryz.prog 130 #[.string s,.int .i64 c] w fun e w'=>e=.returned (.string ⟨(Lib.repeatL s.data.toList c).toArray⟩)∧Below w.heap.size w w':=Any.strings_Repeat Tryz.lays105 Tryz.Builder_Extra_105 s c w hc hlen
def Tryz.lays113_ren:Go.Shelf.Ren:=⟨fun | 113=>152 | n=>n,fun | 28=>27 | 3=>3 | 4=>4 | 9=>9 | 20=>20 | 0=>0 | n=>n,fun | n=>n⟩
theorem Tryz.lays113:Go.Proofs.Lays.n113 Tryz.prog Tryz.lays113_ren:={
 mixed:=by kernel_rfl
 f113:=Tryz.func152.trans (congrArg some (by kernel_rfl))
 t0:=Tryz.underlying0
 a0:=Tryz.isAgg0
 z0:=Tryz.sizeOf0
 v0:=Tryz.zeroValue0
 t3:=Tryz.underlying3
 a3:=Tryz.isAgg3
 z3:=Tryz.sizeOf3
 v3:=Tryz.zeroValue3
 t4:=Tryz.underlying4
 a4:=Tryz.isAgg4
 z4:=Tryz.sizeOf4
 v4:=Tryz.zeroValue4
 t9:=Tryz.underlying9
 a9:=Tryz.isAgg9
 z9:=Tryz.sizeOf9
 v9:=Tryz.zeroValue9
 t20:=Tryz.underlying20
 a20:=Tryz.isAgg20
 z20:=Tryz.sizeOf20
 v20:=Tryz.zeroValue20
 t28:=Tryz.underlying27
 a28:=Tryz.isAgg27
 z28:=Tryz.sizeOf27
 v28:=Tryz.zeroValue27 }
open Go.Lib in
theorem Tryz.slices_Max_int (b off n c:Nat) (zs:List Int) (w:World) (hn:0<n) (hz:n<=zs.length) (hbig:n<=9223372036854775807) (hc:∀ j,j<zs.length->w.cell? ⟨b,off+j,none⟩=some (.int .i64 (zs.getD j 0))) :
  Calls Tryz.prog 152 #[.slice (some ⟨b,off,none⟩) n c] w fun e w'=>e=.returned (.int .i64 (Lib.maxOf (zs.take n)))∧w'=w:=Any.slices_Max_int Tryz.lays113 b off n c zs w hn hz hbig hc
def Tryz.lays114_ren:Go.Shelf.Ren:=⟨fun | 114=>151 | n=>n,fun | 28=>27 | 3=>3 | 4=>4 | 9=>9 | 20=>20 | 0=>0 | n=>n,fun | n=>n⟩
theorem Tryz.lays114:Go.Proofs.Lays.n114 Tryz.prog Tryz.lays114_ren:={
 mixed:=by kernel_rfl
 f114:=Tryz.func151.trans (congrArg some (by kernel_rfl))
 t0:=Tryz.underlying0
 a0:=Tryz.isAgg0
 z0:=Tryz.sizeOf0
 v0:=Tryz.zeroValue0
 t3:=Tryz.underlying3
 a3:=Tryz.isAgg3
 z3:=Tryz.sizeOf3
 v3:=Tryz.zeroValue3
 t4:=Tryz.underlying4
 a4:=Tryz.isAgg4
 z4:=Tryz.sizeOf4
 v4:=Tryz.zeroValue4
 t9:=Tryz.underlying9
 a9:=Tryz.isAgg9
 z9:=Tryz.sizeOf9
 v9:=Tryz.zeroValue9
 t20:=Tryz.underlying20
 a20:=Tryz.isAgg20
 z20:=Tryz.sizeOf20
 v20:=Tryz.zeroValue20
 t28:=Tryz.underlying27
 a28:=Tryz.isAgg27
 z28:=Tryz.sizeOf27
 v28:=Tryz.zeroValue27 }
open Go.Lib in
theorem Tryz.slices_Min_int (b off n c:Nat) (zs:List Int) (w:World) (hn:0<n) (hz:n<=zs.length) (hbig:n<=9223372036854775807) (hc:∀ j,j<zs.length->w.cell? ⟨b,off+j,none⟩=some (.int .i64 (zs.getD j 0))) :
  Calls Tryz.prog 151 #[.slice (some ⟨b,off,none⟩) n c] w fun e w'=>e=.returned (.int .i64 (Lib.minOf (zs.take n)))∧w'=w:=Any.slices_Min_int Tryz.lays114 b off n c zs w hn hz hbig hc
def Tryz.lays111_ren:Go.Shelf.Ren:=⟨fun | 111=>40 | n=>n,fun | 28=>27 | 3=>3 | 4=>4 | 0=>0 | n=>n,fun | n=>n⟩
theorem Tryz.lays111:Go.Proofs.Lays.n111 Tryz.prog Tryz.lays111_ren:={
 mixed:=by kernel_rfl
 f111:=Tryz.func40.trans (congrArg some (by kernel_rfl))
 t0:=Tryz.underlying0
 a0:=Tryz.isAgg0
 z0:=Tryz.sizeOf0
 v0:=Tryz.zeroValue0
 t3:=Tryz.underlying3
 a3:=Tryz.isAgg3
 z3:=Tryz.sizeOf3
 v3:=Tryz.zeroValue3
 t4:=Tryz.underlying4
 a4:=Tryz.isAgg4
 z4:=Tryz.sizeOf4
 v4:=Tryz.zeroValue4
 t28:=Tryz.underlying27
 a28:=Tryz.isAgg27
 z28:=Tryz.sizeOf27
 v28:=Tryz.zeroValue27 }
open Go.RowKit Go.Lib in
theorem Tryz.slices_Equal_int (b1 o1 n c b2 o2 m d:Nat) (xs ys:List Int) (w:World) (hx:n<=xs.length) (hy:m<=ys.length) (hbig:n<=9223372036854775807) (hbig2:m<=9223372036854775807) (hc1:∀ j,j<xs.length->w.cell? ⟨b1,o1+j,none⟩=some (.int .i64 (xs.getD j 0))) (hc2:∀ j,j<ys.length->w.cell? ⟨b2,o2+j,none⟩=some (.int .i64 (ys.getD j 0))) :
  Calls Tryz.prog 40 #[.slice (some ⟨b1,o1,none⟩) n c,.slice (some ⟨b2,o2,none⟩) m d] w fun e w'=>e=.returned (.bool (xs.take n==ys.take m))∧∃ q,w'=w.drewN q:=Any.slices_Equal_int Tryz.lays111 b1 o1 n c b2 o2 m d xs ys w hx hy hbig hbig2 hc1 hc2
open Go.RowKit Go.Lib in
theorem Tryz.slices_Equal_int_empty (a1 a2:Option Addr) (c m d:Nat) (w:World) (hbig2:m<=9223372036854775807) :
  Calls Tryz.prog 40 #[.slice a1 0 c,.slice a2 m d] w fun e w'=>e=.returned (.bool (decide (m=0)))∧w'=w:=Any.slices_Equal_int_empty Tryz.lays111 a1 a2 c m d w hbig2
def Tryz.laysNm220_ren:Go.Shelf.Ren:=⟨fun | 20=>28 | n=>n,fun | 22=>27 | 3=>3 | 4=>4 | 0=>0 | n=>n,fun | n=>n⟩
theorem Tryz.laysNm220:Go.Proofs.Lays2.n20 Tryz.prog Tryz.laysNm220_ren:={
 mixed:=by kernel_rfl
 f20:=Tryz.func28.trans (congrArg some (by kernel_rfl))
 t0:=Tryz.underlying0
 a0:=Tryz.isAgg0
 z0:=Tryz.sizeOf0
 v0:=Tryz.zeroValue0
 t3:=Tryz.underlying3
 a3:=Tryz.isAgg3
 z3:=Tryz.sizeOf3
 v3:=Tryz.zeroValue3
 t4:=Tryz.underlying4
 a4:=Tryz.isAgg4
 z4:=Tryz.sizeOf4
 v4:=Tryz.zeroValue4
 t22:=Tryz.underlying27
 a22:=Tryz.isAgg27
 z22:=Tryz.sizeOf27
 v22:=Tryz.zeroValue27
 i3:=by kernel_rfl }
open Go.RowKit Go.Lib Go.Sort in
theorem Tryz.slices_Compact_int (blk off cap:Nat) (zs:List Int) (w:World) (hH:Holds (Value.int .i64) w blk off zs.toArray) (hsz:zs.length<=9223372036854775807) (hcap:zs.length<=cap) :
  Calls Tryz.prog 28 #[.slice (some ⟨blk,off,none⟩) zs.length cap] w fun e w'=>e=.returned (.slice (some ⟨blk,off,none⟩) (Lib.compact zs).length cap)∧∃ q,w'=putRow (Value.int .i64) (Sort.ahead w q) blk off (Lib.compact zs++List.replicate (zs.length - (Lib.compact zs).length) 0).toArray:=Any.slices_Compact_int Tryz.laysNm220 blk off cap zs w hH hsz hcap
open Go.RowKit Go.Lib in
theorem Tryz.slices_Equal_int_lens (a1 a2:Option Addr) (n c m d:Nat) (w:World) (hnm:n≠m) :
  Calls Tryz.prog 40 #[.slice a1 n c,.slice a2 m d] w fun e w'=>e=.returned (.bool false)∧w'=w:=Any.slices_Equal_int_lens Tryz.lays111 a1 a2 n c m d w hnm
end Go.Proofs
