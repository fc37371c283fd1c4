/- Part Sf: TryzShelf. -/
import Derived.Shelf.Strings.Builder1
import Derived.Shelf.Strings.Builder2
import Derived.Shelf.Strings.OnBuilder
import Derived.Shelf.Small.Strs
import Derived.Shelf.Strings.BuilderF
import Derived.Shelf.Strings.BuilderK
import Derived.Shelf.Strconv.Itoa0
import Derived.Shelf.Strconv.Itoa1
import Derived.Shelf.LaysM
import Derived.Shelf.Strconv.Itoa2
import Derived.Shelf.Strconv.Itoa3
import Derived.Shelf.Strconv.Itoa4
import Derived.Shelf.Strconv.ParseIntEmpty
import Derived.Shelf.Strconv.Clone
import Derived.Shelf.Strconv.SyntaxError
import Derived.Shelf.LaysC
import Derived.Shelf.Strconv.ToError
import Derived.Shelf.Strconv.Lower
import Derived.Shelf.Strconv.ParseUint10
import Derived.Shelf.Strconv.ParseUint10Empty
import Derived.Shelf.Strconv.ParseUint10Any
import Derived.Shelf.Strconv.ParseInt10
import Derived.Shelf.Strconv.RangeError
import Derived.Shelf.Strconv.ToErrorRange
import Derived.Shelf.Strconv.ParseUintEmpty
import Derived.Shelf.Strconv.ParseUint10b64
import Derived.Shelf.Strconv.ParseUint10b32
import Derived.Shelf.Strconv.ParseUint10b16
import Derived.Shelf.Strconv.ParseUint10b8
import Derived.Shelf.Strconv.ParseUint10At
import Derived.Shelf.Strconv.ParseInt10At64
import Derived.Shelf.Strconv.ParseInt10At32
import Derived.Shelf.Strconv.ParseInt10At16
import Derived.Shelf.Strconv.ParseInt10At8
import Derived.Shelf.Strconv.ParseInt10All
import Derived.Shelf.Strconv.ParseIntPublic10
import Derived.Shelf.Strconv.ErrVarParseInt
import Derived.Shelf.Strings.Search1
import Derived.Shelf.Strings.Search2
import Derived.Shelf.Strings.Search3
import Derived.Shelf.Strings.Count
import Derived.Shelf.Strings.Shaped
import Derived.Shelf.Strings.LastIndex
import Derived.Shelf.Strings.Prefix
import Derived.Shelf.Bits.Mul64
import Derived.Shelf.Strings.Repeat
import Derived.Test.YtghhopjjddppbaaGreatDoorProg
namespace Go.Proofs
open Go.Shelf
def Tryz.lays169_ren:Go.Shelf.Ren:=⟨fun | 169=>86 | n=>n,fun | 70=>92 | 9=>9 | 0=>0 | 72=>95 | 37=>93 | 127=>117 | 3=>3 | 5=>5 | n=>n,fun | n=>n⟩
theorem Tryz.lays169:Go.Proofs.Lays.n169 Tryz.prog Tryz.lays169_ren:={
  mixed:=by kernel_rfl
  f169:=Tryz.func86.trans (congrArg some (by kernel_rfl))
  t0:=Tryz.underlying0
  a0:=Tryz.isAgg0
  z0:=Tryz.sizeOf0
  v0:=Tryz.zeroValue0
  t3:=Tryz.underlying3
  a3:=Tryz.isAgg3
  z3:=Tryz.sizeOf3
  v3:=Tryz.zeroValue3
  t9:=Tryz.underlying9
  a9:=Tryz.isAgg9
  z9:=Tryz.sizeOf9
  v9:=Tryz.zeroValue9
  t37:=Tryz.underlying93
  a37:=Tryz.isAgg93
  z37:=Tryz.sizeOf93
  v37:=Tryz.zeroValue93
  t70:=Tryz.underlying92
  a70:=Tryz.isAgg92
  z70:=Tryz.sizeOf92
  v70:=Tryz.zeroValue92
  t72:=Tryz.underlying95
  a72:=Tryz.isAgg95
  z72:=Tryz.sizeOf95
  v72:=Tryz.zeroValue95
  t127:=Tryz.underlying117
  a127:=Tryz.isAgg117
  z127:=Tryz.sizeOf117
  v127:=Tryz.zeroValue117}
theorem Tryz.Builder_Extra_169:Builder.Extra Tryz.prog Tryz.lays169_ren:={
  sizeBuilder:=by kernel_rfl
  liesBuilder:=by kernel_rfl
  t5:=Tryz.underlying5
  a5:=Tryz.isAgg5
  z5:=Tryz.sizeOf5
  v5:=Tryz.zeroValue5
  infoByte:=by kernel_rfl
  cellsByte:=by kernel_rfl
  sizeByte:=by kernel_rfl
  neB5:=by decide}
open Go.RowKit in
theorem Tryz.Builder_String (B b:Nat) (l:List UInt8) (w:World) (h:Lib.IsBuilder 95 5 B b (Lib.byteCells l) w) (h0:l≠[]) :
    Calls Tryz.prog 86 #[.pointer (some ⟨b,0,none⟩)] w fun e w'=>e = .returned (.string ⟨l.toArray⟩)∧Below B w w':=Any.Builder_String Tryz.lays169 Tryz.Builder_Extra_169 B b l w h h0
def Tryz.lays156_ren:Go.Shelf.Ren:=⟨fun | 156=>103 | 165=>106 | 166=>84 | 169=>86 | 240=>104 | 241=>122 | 276=>119 | 277=>133 | n=>n,fun | 31=>110 | 9=>9 | 3=>3 | 4=>4 | 0=>0 | 20=>20 | 72=>95 | 76=>96 | 70=>92 | 37=>93 | 75=>78 | 127=>117 | 164=>125 | 5=>5 | 80=>84 | n=>n,fun | n=>n⟩
theorem Tryz.lays156:Go.Proofs.Lays.n156 Tryz.prog Tryz.lays156_ren:={
  mixed:=by kernel_rfl
  f156:=Tryz.func103.trans (congrArg some (by kernel_rfl))
  f165:=Tryz.func106.trans (congrArg some (by kernel_rfl))
  f166:=Tryz.func84.trans (congrArg some (by kernel_rfl))
  f169:=Tryz.func86.trans (congrArg some (by kernel_rfl))
  f240:=Tryz.func104.trans (congrArg some (by kernel_rfl))
  f241:=Tryz.func122.trans (congrArg some (by kernel_rfl))
  f276:=Tryz.func119.trans (congrArg some (by kernel_rfl))
  f277:=Tryz.func133.trans (congrArg some (by kernel_rfl))
  t0:=Tryz.underlying0
  a0:=Tryz.isAgg0
  z0:=Tryz.sizeOf0
  v0:=Tryz.zeroValue0
  t3:=Tryz.underlying3
  a3:=Tryz.isAgg3
  z3:=Tryz.sizeOf3
  v3:=Tryz.zeroValue3
  t4:=Tryz.underlying4
  a4:=Tryz.isAgg4
  z4:=Tryz.sizeOf4
  v4:=Tryz.zeroValue4
  t9:=Tryz.underlying9
  a9:=Tryz.isAgg9
  z9:=Tryz.sizeOf9
  v9:=Tryz.zeroValue9
  t20:=Tryz.underlying20
  a20:=Tryz.isAgg20
  z20:=Tryz.sizeOf20
  v20:=Tryz.zeroValue20
  t31:=Tryz.underlying110
  a31:=Tryz.isAgg110
  z31:=Tryz.sizeOf110
  v31:=Tryz.zeroValue110
  t37:=Tryz.underlying93
  a37:=Tryz.isAgg93
  z37:=Tryz.sizeOf93
  v37:=Tryz.zeroValue93
  t70:=Tryz.underlying92
  a70:=Tryz.isAgg92
  z70:=Tryz.sizeOf92
  v70:=Tryz.zeroValue92
  t72:=Tryz.underlying95
  a72:=Tryz.isAgg95
  z72:=Tryz.sizeOf95
  v72:=Tryz.zeroValue95
  t75:=Tryz.underlying78
  a75:=Tryz.isAgg78
  z75:=Tryz.sizeOf78
  v75:=Tryz.zeroValue78
  t76:=Tryz.underlying96
  a76:=Tryz.isAgg96
  z76:=Tryz.sizeOf96
  v76:=Tryz.zeroValue96
  t127:=Tryz.underlying117
  a127:=Tryz.isAgg117
  z127:=Tryz.sizeOf117
  v127:=Tryz.zeroValue117
  t164:=Tryz.underlying125
  a164:=Tryz.isAgg125
  z164:=Tryz.sizeOf125
  v164:=Tryz.zeroValue125}
theorem Tryz.Builder_Extra_156:Builder.Extra Tryz.prog Tryz.lays156_ren:={
  sizeBuilder:=by kernel_rfl
  liesBuilder:=by kernel_rfl
  t5:=Tryz.underlying5
  a5:=Tryz.isAgg5
  z5:=Tryz.sizeOf5
  v5:=Tryz.zeroValue5
  infoByte:=by kernel_rfl
  cellsByte:=by kernel_rfl
  sizeByte:=by kernel_rfl
  neB5:=by decide}
open Go.RowKit in
theorem Tryz.strings_Join_none (a:Option Addr) (c:Nat) (sep:ByteArray) (w:World) :
    Calls Tryz.prog 103 #[.slice a 0 c,.string sep] w fun e w'=>e = .returned (.string ⟨#[]⟩)∧w'=w:=Any.strings_Join_none Tryz.lays156 Tryz.Builder_Extra_156 a c sep w
open Go.RowKit in
theorem Tryz.strings_Join (bk o c:Nat) (xs:List ByteArray) (sep:ByteArray) (w:World) (hcells:∀ (j:Nat) x,xs[j]?=some x→w.cell? ⟨bk,o+j,none⟩=some (.string x)) (hbk:bk < w.heap.size) (hN:xs.length≤140737488355328) (hcap:xs.length≤c) (hlen:(Lib.join (xs.map (·.data.toList)) sep.data.toList).length≤140737488355328) :
    Calls Tryz.prog 103 #[.slice (some ⟨bk,o,none⟩) xs.length c,.string sep] w fun e w'=>e = .returned (.string ⟨(Lib.join (xs.map (·.data.toList)) sep.data.toList).toArray⟩)∧Below w.heap.size w w':=Any.strings_Join Tryz.lays156 Tryz.Builder_Extra_156 bk o c xs sep w hcells hbk hN hcap hlen
def Tryz.lays137_ren:Go.Shelf.Ren:=⟨fun | 137=>70 | 217=>93 | 266=>116 | n=>n,fun | 9=>9 | 5=>5 | 3=>3 | n=>n,fun | n=>n⟩
theorem Tryz.lays137:Go.Proofs.Lays.n137 Tryz.prog Tryz.lays137_ren:={
  mixed:=by kernel_rfl
  f137:=Tryz.func70.trans (congrArg some (by kernel_rfl))
  f217:=Tryz.func93.trans (congrArg some (by kernel_rfl))
  f266:=Tryz.func116.trans (congrArg some (by kernel_rfl))
  t3:=Tryz.underlying3
  a3:=Tryz.isAgg3
  z3:=Tryz.sizeOf3
  v3:=Tryz.zeroValue3
  t5:=Tryz.underlying5
  a5:=Tryz.isAgg5
  z5:=Tryz.sizeOf5
  v5:=Tryz.zeroValue5
  t9:=Tryz.underlying9
  a9:=Tryz.isAgg9
  z9:=Tryz.sizeOf9
  v9:=Tryz.zeroValue9}
open Go.RowKit in
theorem Tryz.strings_IndexByte (s:ByteArray) (c:Int) (w:World) :
    Calls Tryz.prog 70 #[.string s,.int .u8 c] w fun e w'=>e = .returned (.int .i64 (Lib.indexByte s.data.toList c.toNat.toUInt8))∧w'=w:=Any.strings_IndexByte Tryz.lays137 s c w
def Tryz.laysM173_ren:Go.Shelf.Ren:=⟨fun | 173=>102 | 246=>118 | 283=>129 | 284=>130 | 285=>131 | 286=>132 | 129=>136 | 317=>135 | 318=>137 | 319=>138 | 320=>139 | 337=>140 | 338=>141 | n=>n,fun | 2=>2 | 3=>3 | 9=>9 | 4=>4 | 171=>138 | 0=>0 | 53=>102 | 37=>93 | 5=>5 | 173=>141 | 212=>148 | 51=>127 | 20=>20 | 213=>149 | 46=>112 | 232=>153 | 233=>154 | n=>n,fun | 17=>3 | 18=>4 | 19=>5 | n=>n⟩
theorem Tryz.laysM173:Go.Proofs.LaysM.n173 Tryz.prog Tryz.laysM173_ren:={
  mixed:=by kernel_rfl
  f129:=Tryz.func136.trans (congrArg some (by kernel_rfl))
  f173:=Tryz.func102.trans (congrArg some (by kernel_rfl))
  f246:=Tryz.func118.trans (congrArg some (by kernel_rfl))
  f283:=Tryz.func129.trans (congrArg some (by kernel_rfl))
  f284:=Tryz.func130.trans (congrArg some (by kernel_rfl))
  f285:=Tryz.func131.trans (congrArg some (by kernel_rfl))
  f286:=Tryz.func132.trans (congrArg some (by kernel_rfl))
  f317:=Tryz.func135.trans (congrArg some (by kernel_rfl))
  f318:=Tryz.func137.trans (congrArg some (by kernel_rfl))
  f319:=Tryz.func138.trans (congrArg some (by kernel_rfl))
  f320:=Tryz.func139.trans (congrArg some (by kernel_rfl))
  f337:=Tryz.func140.trans (congrArg some (by kernel_rfl))
  f338:=Tryz.func141.trans (congrArg some (by kernel_rfl))
  t0:=Tryz.underlying0
  a0:=Tryz.isAgg0
  z0:=Tryz.sizeOf0
  v0:=Tryz.zeroValue0
  t2:=Tryz.underlying2
  a2:=Tryz.isAgg2
  z2:=Tryz.sizeOf2
  v2:=Tryz.zeroValue2
  t3:=Tryz.underlying3
  a3:=Tryz.isAgg3
  z3:=Tryz.sizeOf3
  v3:=Tryz.zeroValue3
  t4:=Tryz.underlying4
  a4:=Tryz.isAgg4
  z4:=Tryz.sizeOf4
  v4:=Tryz.zeroValue4
  t5:=Tryz.underlying5
  a5:=Tryz.isAgg5
  z5:=Tryz.sizeOf5
  v5:=Tryz.zeroValue5
  t9:=Tryz.underlying9
  a9:=Tryz.isAgg9
  z9:=Tryz.sizeOf9
  v9:=Tryz.zeroValue9
  t20:=Tryz.underlying20
  a20:=Tryz.isAgg20
  z20:=Tryz.sizeOf20
  v20:=Tryz.zeroValue20
  t37:=Tryz.underlying93
  a37:=Tryz.isAgg93
  z37:=Tryz.sizeOf93
  v37:=Tryz.zeroValue93
  t46:=Tryz.underlying112
  a46:=Tryz.isAgg112
  z46:=Tryz.sizeOf112
  v46:=Tryz.zeroValue112
  t51:=Tryz.underlying127
  a51:=Tryz.isAgg127
  z51:=Tryz.sizeOf127
  v51:=Tryz.zeroValue127
  t53:=Tryz.underlying102
  a53:=Tryz.isAgg102
  z53:=Tryz.sizeOf102
  v53:=Tryz.zeroValue102
  t171:=Tryz.underlying138
  a171:=Tryz.isAgg138
  z171:=Tryz.sizeOf138
  v171:=Tryz.zeroValue138
  t173:=Tryz.underlying141
  a173:=Tryz.isAgg141
  z173:=Tryz.sizeOf141
  v173:=Tryz.zeroValue141
  t212:=Tryz.underlying148
  a212:=Tryz.isAgg148
  z212:=Tryz.sizeOf148
  v212:=Tryz.zeroValue148
  t213:=Tryz.underlying149
  a213:=Tryz.isAgg149
  z213:=Tryz.sizeOf149
  t232:=Tryz.underlying153
  a232:=Tryz.isAgg153
  z232:=Tryz.sizeOf153
  v232:=Tryz.zeroValue153
  t233:=Tryz.underlying154
  a233:=Tryz.isAgg154
  z233:=Tryz.sizeOf154
  v233:=Tryz.zeroValue154
  g17:=by kernel_rfl
  g18:=by kernel_rfl
  g19:=by kernel_rfl
  i0:=by kernel_rfl
  i2:=by kernel_rfl
  i3:=by kernel_rfl
  i4:=by kernel_rfl
  i5:=by kernel_rfl
  i9:=by kernel_rfl
  i20:=by kernel_rfl
  i37:=by kernel_rfl
  i46:=by kernel_rfl
  i51:=by kernel_rfl
  i53:=by kernel_rfl
  i171:=by kernel_rfl
  i173:=by kernel_rfl
  i212:=by kernel_rfl
  i232:=by kernel_rfl
  i233:=by kernel_rfl
  m17:=by kernel_rfl
  m18:=by kernel_rfl
  m19:=by kernel_rfl}
open Go.RowKit Go.Sort Go.Lib in
theorem Tryz.strconv_FormatInt_10 (n : Int) (h0 : -9223372036854775808 ≤ n) (h1 : n ≤ 9223372036854775807) (w : World) (htab : Lib.TabIs Tryz.prog w "internal/strconv.uint64pow10" .u64 Lib.pow10Tab) :
    Calls Tryz.prog 102 #[.int .i64 n,.int .i64 10] w fun e w'=>e = .returned (.string ⟨(Lib.itoa n).toArray⟩)∧∃ k os,w'=grow (w.drewN k) os:=Any.strconv_FormatInt_10 Tryz.laysM173 n h0 h1 w htab
def Tryz.laysC174_ren:Go.Shelf.Ren:=⟨fun | 174=>67 | 247=>90 | 245=>91 | 287=>111 | 279=>112 | 280=>113 | 281=>114 | 282=>115 | 321=>124 | 322=>125 | 316=>126 | 171=>128 | 205=>127 | 243=>134 | 246=>118 | 283=>129 | 284=>130 | 285=>131 | 286=>132 | 129=>136 | 317=>135 | 318=>137 | 319=>138 | 320=>139 | 337=>140 | 338=>141 | n=>n,fun | 9=>9 | 3=>3 | 2=>2 | 75=>78 | 85=>79 | 4=>4 | 167=>119 | 5=>5 | 53=>102 | 175=>120 | 46=>112 | 168=>122 | 37=>93 | 0=>0 | 210=>135 | 21=>21 | 127=>117 | 145=>146 | 143=>144 | 171=>138 | 173=>141 | 212=>148 | 51=>127 | 20=>20 | 213=>149 | 232=>153 | 233=>154 | 80=>84 | n=>n,fun | 15=>1 | 16=>2 | 17=>3 | 18=>4 | 19=>5 | n=>n⟩
theorem Tryz.laysC174:Go.Proofs.LaysC.n174 Tryz.prog Tryz.laysC174_ren:={
  mixed:=by kernel_rfl
  f129:=Tryz.func136.trans (congrArg some (by kernel_rfl))
  f171:=Tryz.func128.trans (congrArg some (by kernel_rfl))
  f174:=Tryz.func67.trans (congrArg some (by kernel_rfl))
  f205:=Tryz.func127.trans (congrArg some (by kernel_rfl))
  f243:=Tryz.func134.trans (congrArg some (by kernel_rfl))
  f245:=Tryz.func91.trans (congrArg some (by kernel_rfl))
  f246:=Tryz.func118.trans (congrArg some (by kernel_rfl))
  f247:=Tryz.func90.trans (congrArg some (by kernel_rfl))
  f279:=Tryz.func112.trans (congrArg some (by kernel_rfl))
  f280:=Tryz.func113.trans (congrArg some (by kernel_rfl))
  f281:=Tryz.func114.trans (congrArg some (by kernel_rfl))
  f282:=Tryz.func115.trans (congrArg some (by kernel_rfl))
  f283:=Tryz.func129.trans (congrArg some (by kernel_rfl))
  f284:=Tryz.func130.trans (congrArg some (by kernel_rfl))
  f285:=Tryz.func131.trans (congrArg some (by kernel_rfl))
  f286:=Tryz.func132.trans (congrArg some (by kernel_rfl))
  f287:=Tryz.func111.trans (congrArg some (by kernel_rfl))
  f316:=Tryz.func126.trans (congrArg some (by kernel_rfl))
  f317:=Tryz.func135.trans (congrArg some (by kernel_rfl))
  f318:=Tryz.func137.trans (congrArg some (by kernel_rfl))
  f319:=Tryz.func138.trans (congrArg some (by kernel_rfl))
  f320:=Tryz.func139.trans (congrArg some (by kernel_rfl))
  f321:=Tryz.func124.trans (congrArg some (by kernel_rfl))
  f322:=Tryz.func125.trans (congrArg some (by kernel_rfl))
  f337:=Tryz.func140.trans (congrArg some (by kernel_rfl))
  f338:=Tryz.func141.trans (congrArg some (by kernel_rfl))
  t0:=Tryz.underlying0
  a0:=Tryz.isAgg0
  z0:=Tryz.sizeOf0
  v0:=Tryz.zeroValue0
  t2:=Tryz.underlying2
  a2:=Tryz.isAgg2
  z2:=Tryz.sizeOf2
  v2:=Tryz.zeroValue2
  t3:=Tryz.underlying3
  a3:=Tryz.isAgg3
  z3:=Tryz.sizeOf3
  v3:=Tryz.zeroValue3
  t4:=Tryz.underlying4
  a4:=Tryz.isAgg4
  z4:=Tryz.sizeOf4
  v4:=Tryz.zeroValue4
  t5:=Tryz.underlying5
  a5:=Tryz.isAgg5
  z5:=Tryz.sizeOf5
  v5:=Tryz.zeroValue5
  t9:=Tryz.underlying9
  a9:=Tryz.isAgg9
  z9:=Tryz.sizeOf9
  v9:=Tryz.zeroValue9
  t20:=Tryz.underlying20
  a20:=Tryz.isAgg20
  z20:=Tryz.sizeOf20
  v20:=Tryz.zeroValue20
  t21:=Tryz.underlying21
  a21:=Tryz.isAgg21
  z21:=Tryz.sizeOf21
  v21:=Tryz.zeroValue21
  t37:=Tryz.underlying93
  a37:=Tryz.isAgg93
  z37:=Tryz.sizeOf93
  v37:=Tryz.zeroValue93
  t46:=Tryz.underlying112
  a46:=Tryz.isAgg112
  z46:=Tryz.sizeOf112
  v46:=Tryz.zeroValue112
  t51:=Tryz.underlying127
  a51:=Tryz.isAgg127
  z51:=Tryz.sizeOf127
  v51:=Tryz.zeroValue127
  t53:=Tryz.underlying102
  a53:=Tryz.isAgg102
  z53:=Tryz.sizeOf102
  v53:=Tryz.zeroValue102
  t75:=Tryz.underlying78
  a75:=Tryz.isAgg78
  z75:=Tryz.sizeOf78
  v75:=Tryz.zeroValue78
  t85:=Tryz.underlying79
  a85:=Tryz.isAgg79
  z85:=Tryz.sizeOf79
  v85:=Tryz.zeroValue79
  t127:=Tryz.underlying117
  a127:=Tryz.isAgg117
  z127:=Tryz.sizeOf117
  v127:=Tryz.zeroValue117
  t143:=Tryz.underlying144
  a143:=Tryz.isAgg144
  z143:=Tryz.sizeOf144
  v143:=Tryz.zeroValue144
  t145:=Tryz.underlying146
  a145:=Tryz.isAgg146
  z145:=Tryz.sizeOf146
  v145:=Tryz.zeroValue146
  t167:=Tryz.underlying119
  a167:=Tryz.isAgg119
  z167:=Tryz.sizeOf119
  v167:=Tryz.zeroValue119
  t168:=Tryz.underlying122
  a168:=Tryz.isAgg122
  z168:=Tryz.sizeOf122
  v168:=Tryz.zeroValue122
  t171:=Tryz.underlying138
  a171:=Tryz.isAgg138
  z171:=Tryz.sizeOf138
  v171:=Tryz.zeroValue138
  t173:=Tryz.underlying141
  a173:=Tryz.isAgg141
  z173:=Tryz.sizeOf141
  v173:=Tryz.zeroValue141
  t175:=Tryz.underlying120
  a175:=Tryz.isAgg120
  z175:=Tryz.sizeOf120
  v175:=Tryz.zeroValue120
  t210:=Tryz.underlying135
  a210:=Tryz.isAgg135
  z210:=Tryz.sizeOf135
  v210:=Tryz.zeroValue135
  t212:=Tryz.underlying148
  a212:=Tryz.isAgg148
  z212:=Tryz.sizeOf148
  v212:=Tryz.zeroValue148
  t213:=Tryz.underlying149
  a213:=Tryz.isAgg149
  z213:=Tryz.sizeOf149
  t232:=Tryz.underlying153
  a232:=Tryz.isAgg153
  z232:=Tryz.sizeOf153
  v232:=Tryz.zeroValue153
  t233:=Tryz.underlying154
  a233:=Tryz.isAgg154
  z233:=Tryz.sizeOf154
  v233:=Tryz.zeroValue154
  g15:=by kernel_rfl
  g16:=by kernel_rfl
  g17:=by kernel_rfl
  g18:=by kernel_rfl
  g19:=by kernel_rfl
  t80:=Tryz.underlying84
  a80:=Tryz.isAgg84
  z80:=Tryz.sizeOf84
  v80:=Tryz.zeroValue84
  i0:=by kernel_rfl
  i2:=by kernel_rfl
  i3:=by kernel_rfl
  i4:=by kernel_rfl
  i5:=by kernel_rfl
  i9:=by kernel_rfl
  i20:=by kernel_rfl
  i21:=by kernel_rfl
  i37:=by kernel_rfl
  i46:=by kernel_rfl
  i51:=by kernel_rfl
  i53:=by kernel_rfl
  i75:=by kernel_rfl
  i80:=by kernel_rfl
  i85:=by kernel_rfl
  i127:=by kernel_rfl
  i143:=by kernel_rfl
  i145:=by kernel_rfl
  i167:=by kernel_rfl
  i168:=by kernel_rfl
  i171:=by kernel_rfl
  i173:=by kernel_rfl
  i175:=by kernel_rfl
  i210:=by kernel_rfl
  i212:=by kernel_rfl
  i232:=by kernel_rfl
  i233:=by kernel_rfl
  m15:=by kernel_rfl
  m16:=by kernel_rfl
  m17:=by kernel_rfl
  m18:=by kernel_rfl
  m19:=by kernel_rfl
  c0:=by kernel_rfl
  c2:=by kernel_rfl
  c3:=by kernel_rfl
  c4:=by kernel_rfl
  c5:=by kernel_rfl
  c9:=by kernel_rfl
  c20:=by kernel_rfl
  c21:=by kernel_rfl
  c37:=by kernel_rfl
  c46:=by kernel_rfl
  c51:=by kernel_rfl
  c53:=by kernel_rfl
  c75:=by kernel_rfl
  c80:=by kernel_rfl
  c85:=by kernel_rfl
  c127:=by kernel_rfl
  c143:=by kernel_rfl
  c145:=by kernel_rfl
  c167:=by kernel_rfl
  c168:=by kernel_rfl
  c171:=by kernel_rfl
  c173:=by kernel_rfl
  c175:=by kernel_rfl
  c210:=by kernel_rfl
  c212:=by kernel_rfl
  c213:=by kernel_rfl
  c232:=by kernel_rfl
  c233:=by kernel_rfl}
open Go.RowKit in
theorem Tryz.strconv_ParseInt_10_at64_ok (s:ByteArray) (hmax:s.size≤9223372036854775806) (v:Int) (h:Lib.parseIntB 64 s.data.toList = .ok v) (w:World) :
    Calls Tryz.prog 67 #[.string s,.int .i64 10,.int .i64 64] w fun e w'=>e = .returned (.tuple #[.int .i64 v,.nilIface])∧(w'=w∨∃ t,w'=Lib.bytesWorld w 5 t):=Any.strconv_ParseInt_10_at64_ok Tryz.laysC174 s hmax v h w
open Go.RowKit in
theorem Tryz.strconv_ParseInt_10_at64_syntax (s:ByteArray) (hlim:s.size≤281474976710656) (h:Lib.parseIntB 64 s.data.toList = .«syntax») (ev:Value) (w:World) (hv:w.cell? ⟨1,0,none⟩=some ev) (hev:ev = .nilIface∨∃ te pe,ev = .iface te pe) :
    Calls Tryz.prog 67 #[.string s,.int .i64 10,.int .i64 64] w fun e w'=>∃ N,e = .returned (.tuple #[.int .i64 (0),.iface 122 (.pointer (some ⟨N,0,none⟩))])∧w.heap.size≤N∧w'.heap[N]?=some (.cells #[.string ⟨#[80,97,114,115,101,73,110,116]⟩,.string s,ev] 135 (0,0))∧Below w.heap.size w w':=Any.strconv_ParseInt_10_at64_syntax Tryz.laysC174 s hlim h ev w hv hev
open Go.RowKit in
theorem Tryz.strconv_ParseInt_10_at64_range (s:ByteArray) (hlim:s.size≤281474976710656) (h:Lib.parseIntB 64 s.data.toList = .range) (ev:Value) (w:World) (hv:w.cell? ⟨2,0,none⟩=some ev) (hev:ev = .nilIface∨∃ te pe,ev = .iface te pe) :
    Calls Tryz.prog 67 #[.string s,.int .i64 10,.int .i64 64] w fun e w'=>∃ N,e = .returned (.tuple #[.int .i64 (Lib.intSat 64 s.data.toList),.iface 122 (.pointer (some ⟨N,0,none⟩))])∧w.heap.size≤N∧w'.heap[N]?=some (.cells #[.string ⟨#[80,97,114,115,101,73,110,116]⟩,.string s,ev] 135 (0,0))∧Below w.heap.size w w':=Any.strconv_ParseInt_10_at64_range Tryz.laysC174 s hlim h ev w hv hev
def Tryz.lays138_ren:Go.Shelf.Ren:=⟨fun | 138=>27 | 195=>63 | 218=>64 | 143=>65 | 219=>89 | 217=>93 | 225=>108 | 224=>109 | 267=>110 | 266=>116 | 314=>123 | n=>n,fun | 9=>9 | 3=>3 | 4=>4 | 5=>5 | 0=>0 | 46=>112 | 146=>128 | 51=>127 | n=>n,fun | 1=>0 | n=>n⟩
theorem Tryz.lays138:Go.Proofs.Lays.n138 Tryz.prog Tryz.lays138_ren:={
  mixed:=by kernel_rfl
  f138:=Tryz.func27.trans (congrArg some (by kernel_rfl))
  f143:=Tryz.func65.trans (congrArg some (by kernel_rfl))
  f195:=Tryz.func63.trans (congrArg some (by kernel_rfl))
  f217:=Tryz.func93.trans (congrArg some (by kernel_rfl))
  f218:=Tryz.func64.trans (congrArg some (by kernel_rfl))
  f219:=Tryz.func89.trans (congrArg some (by kernel_rfl))
  f224:=Tryz.func109.trans (congrArg some (by kernel_rfl))
  f225:=Tryz.func108.trans (congrArg some (by kernel_rfl))
  f266:=Tryz.func116.trans (congrArg some (by kernel_rfl))
  f267:=Tryz.func110.trans (congrArg some (by kernel_rfl))
  f314:=Tryz.func123.trans (congrArg some (by kernel_rfl))
  t0:=Tryz.underlying0
  a0:=Tryz.isAgg0
  z0:=Tryz.sizeOf0
  v0:=Tryz.zeroValue0
  t3:=Tryz.underlying3
  a3:=Tryz.isAgg3
  z3:=Tryz.sizeOf3
  v3:=Tryz.zeroValue3
  t4:=Tryz.underlying4
  a4:=Tryz.isAgg4
  z4:=Tryz.sizeOf4
  v4:=Tryz.zeroValue4
  t5:=Tryz.underlying5
  a5:=Tryz.isAgg5
  z5:=Tryz.sizeOf5
  v5:=Tryz.zeroValue5
  t9:=Tryz.underlying9
  a9:=Tryz.isAgg9
  z9:=Tryz.sizeOf9
  v9:=Tryz.zeroValue9
  t46:=Tryz.underlying112
  a46:=Tryz.isAgg112
  z46:=Tryz.sizeOf112
  v46:=Tryz.zeroValue112
  t51:=Tryz.underlying127
  a51:=Tryz.isAgg127
  z51:=Tryz.sizeOf127
  v51:=Tryz.zeroValue127
  t146:=Tryz.underlying128
  a146:=Tryz.isAgg128
  z146:=Tryz.sizeOf128
  v146:=Tryz.zeroValue128
  g1:=by kernel_rfl}
open Go.RowKit Go.Lib in
theorem Tryz.strings_Count_one (s:ByteArray) (c:UInt8) (w:World) :
    Calls Tryz.prog 27 #[.string s,.string ⟨#[c]⟩] w fun e w'=>e = .returned (.int .i64 (Lib.countByte s.data.toList c))∧w'=w:=Any.strings_Count_one Tryz.lays138 s c w
def Tryz.lays149_ren:Go.Shelf.Ren:=⟨fun | 149=>28 | 222=>66 | n=>n,fun | 9=>9 | 5=>5 | 3=>3 | 4=>4 | n=>n,fun | n=>n⟩
theorem Tryz.lays149:Go.Proofs.Lays.n149 Tryz.prog Tryz.lays149_ren:={
  mixed:=by kernel_rfl
  f149:=Tryz.func28.trans (congrArg some (by kernel_rfl))
  f222:=Tryz.func66.trans (congrArg some (by kernel_rfl))
  t3:=Tryz.underlying3
  a3:=Tryz.isAgg3
  z3:=Tryz.sizeOf3
  v3:=Tryz.zeroValue3
  t4:=Tryz.underlying4
  a4:=Tryz.isAgg4
  z4:=Tryz.sizeOf4
  v4:=Tryz.zeroValue4
  t5:=Tryz.underlying5
  a5:=Tryz.isAgg5
  z5:=Tryz.sizeOf5
  v5:=Tryz.zeroValue5
  t9:=Tryz.underlying9
  a9:=Tryz.isAgg9
  z9:=Tryz.sizeOf9
  v9:=Tryz.zeroValue9}
open Go.RowKit Go.Lib in
theorem Tryz.strings_LastIndexByte (s:ByteArray) (c:Int) (hs:s.size < 4611686018427387904) (w:World) :
    Calls Tryz.prog 28 #[.string s,.int .u8 c] w fun e w'=>e = .returned (.int .i64 (Lib.lastIndexByte s c))∧w'=w:=Any.strings_LastIndexByte Tryz.lays149 s c hs w
def Tryz.lays105_ren:Go.Shelf.Ren:=⟨fun | 105=>85 | 212=>105 | 99=>69 | 165=>106 | 166=>84 | 170=>107 | 169=>86 | 263=>120 | 264=>121 | 206=>92 | 240=>104 | 241=>122 | 276=>119 | 277=>133 | n=>n,fun | 9=>9 | 3=>3 | 4=>4 | 20=>20 | 0=>0 | 46=>112 | 109=>113 | 5=>5 | 72=>95 | 76=>96 | 51=>127 | 146=>128 | 53=>102 | 148=>130 | 70=>92 | 37=>93 | 75=>78 | 127=>117 | 164=>125 | 80=>84 | n=>n,fun | n=>n⟩
theorem Tryz.lays105:Go.Proofs.Lays.n105 Tryz.prog Tryz.lays105_ren:={
  mixed:=by kernel_rfl
  f99:=Tryz.func69.trans (congrArg some (by kernel_rfl))
  f105:=Tryz.func85.trans (congrArg some (by kernel_rfl))
  f165:=Tryz.func106.trans (congrArg some (by kernel_rfl))
  f166:=Tryz.func84.trans (congrArg some (by kernel_rfl))
  f169:=Tryz.func86.trans (congrArg some (by kernel_rfl))
  f170:=Tryz.func107.trans (congrArg some (by kernel_rfl))
  f206:=Tryz.func92.trans (congrArg some (by kernel_rfl))
  f212:=Tryz.func105.trans (congrArg some (by kernel_rfl))
  f240:=Tryz.func104.trans (congrArg some (by kernel_rfl))
  f241:=Tryz.func122.trans (congrArg some (by kernel_rfl))
  f263:=Tryz.func120.trans (congrArg some (by kernel_rfl))
  f264:=Tryz.func121.trans (congrArg some (by kernel_rfl))
  f276:=Tryz.func119.trans (congrArg some (by kernel_rfl))
  f277:=Tryz.func133.trans (congrArg some (by kernel_rfl))
  t0:=Tryz.underlying0
  a0:=Tryz.isAgg0
  z0:=Tryz.sizeOf0
  v0:=Tryz.zeroValue0
  t3:=Tryz.underlying3
  a3:=Tryz.isAgg3
  z3:=Tryz.sizeOf3
  v3:=Tryz.zeroValue3
  t4:=Tryz.underlying4
  a4:=Tryz.isAgg4
  z4:=Tryz.sizeOf4
  v4:=Tryz.zeroValue4
  t5:=Tryz.underlying5
  a5:=Tryz.isAgg5
  z5:=Tryz.sizeOf5
  v5:=Tryz.zeroValue5
  t9:=Tryz.underlying9
  a9:=Tryz.isAgg9
  z9:=Tryz.sizeOf9
  v9:=Tryz.zeroValue9
  t20:=Tryz.underlying20
  a20:=Tryz.isAgg20
  z20:=Tryz.sizeOf20
  v20:=Tryz.zeroValue20
  t37:=Tryz.underlying93
  a37:=Tryz.isAgg93
  z37:=Tryz.sizeOf93
  v37:=Tryz.zeroValue93
  t46:=Tryz.underlying112
  a46:=Tryz.isAgg112
  z46:=Tryz.sizeOf112
  v46:=Tryz.zeroValue112
  t51:=Tryz.underlying127
  a51:=Tryz.isAgg127
  z51:=Tryz.sizeOf127
  v51:=Tryz.zeroValue127
  t53:=Tryz.underlying102
  a53:=Tryz.isAgg102
  z53:=Tryz.sizeOf102
  v53:=Tryz.zeroValue102
  t70:=Tryz.underlying92
  a70:=Tryz.isAgg92
  z70:=Tryz.sizeOf92
  v70:=Tryz.zeroValue92
  t72:=Tryz.underlying95
  a72:=Tryz.isAgg95
  z72:=Tryz.sizeOf95
  v72:=Tryz.zeroValue95
  t75:=Tryz.underlying78
  a75:=Tryz.isAgg78
  z75:=Tryz.sizeOf78
  v75:=Tryz.zeroValue78
  t76:=Tryz.underlying96
  a76:=Tryz.isAgg96
  z76:=Tryz.sizeOf96
  v76:=Tryz.zeroValue96
  t109:=Tryz.underlying113
  a109:=Tryz.isAgg113
  z109:=Tryz.sizeOf113
  v109:=Tryz.zeroValue113
  t127:=Tryz.underlying117
  a127:=Tryz.isAgg117
  z127:=Tryz.sizeOf117
  v127:=Tryz.zeroValue117
  t146:=Tryz.underlying128
  a146:=Tryz.isAgg128
  z146:=Tryz.sizeOf128
  v146:=Tryz.zeroValue128
  t148:=Tryz.underlying130
  a148:=Tryz.isAgg130
  z148:=Tryz.sizeOf130
  v148:=Tryz.zeroValue130
  t164:=Tryz.underlying125
  a164:=Tryz.isAgg125
  z164:=Tryz.sizeOf125
  v164:=Tryz.zeroValue125}
theorem Tryz.Builder_Extra_105:Builder.Extra Tryz.prog Tryz.lays105_ren:={
  sizeBuilder:=by kernel_rfl
  liesBuilder:=by kernel_rfl
  t5:=Tryz.underlying5
  a5:=Tryz.isAgg5
  z5:=Tryz.sizeOf5
  v5:=Tryz.zeroValue5
  infoByte:=by kernel_rfl
  cellsByte:=by kernel_rfl
  sizeByte:=by kernel_rfl
  neB5:=by decide}
open Go.RowKit Go.Lib in
theorem Tryz.strings_Repeat (s:ByteArray) (c:Nat) (w:World) (hc:c≤9223372036854775807) (hlen:s.size * c≤140737488355328) :
    Calls Tryz.prog 85 #[.string s,.int .i64 c] w fun e w'=>e = .returned (.string ⟨(Lib.repeatL s.data.toList c).toArray⟩)∧Below w.heap.size w w':=Any.strings_Repeat Tryz.lays105 Tryz.Builder_Extra_105 s c w hc hlen
end Go.Proofs
