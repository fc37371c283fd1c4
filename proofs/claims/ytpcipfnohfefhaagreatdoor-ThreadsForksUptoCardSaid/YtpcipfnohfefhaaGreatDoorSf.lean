/- Part Sf: TryzShelf. -/
import Derived.Test.YtpcipfnohfefhaaGreatDoorA7
import Derived.Shelf.Small.Strs
import Derived.Shelf.Strconv.ParseIntEmpty
import Derived.Shelf.LaysM
import Derived.Shelf.Strconv.Clone
import Derived.Shelf.Strconv.SyntaxError
import Derived.Shelf.LaysC
import Derived.Shelf.Strconv.ToError
import Derived.Shelf.Strconv.Lower
import Derived.Shelf.Strconv.ParseUint10
import Derived.Shelf.Strconv.ParseUint10Empty
import Derived.Shelf.Strconv.ParseUint10Any
import Derived.Shelf.Strconv.ParseInt10
import Derived.Shelf.Strconv.RangeError
import Derived.Shelf.Strconv.ToErrorRange
import Derived.Shelf.Strconv.ParseUintEmpty
import Derived.Shelf.Strconv.ParseUint10b64
import Derived.Shelf.Strconv.ParseUint10b32
import Derived.Shelf.Strconv.ParseUint10b16
import Derived.Shelf.Strconv.ParseUint10b8
import Derived.Shelf.Strconv.ParseUint10At
import Derived.Shelf.Strconv.ParseInt10At64
import Derived.Shelf.Strconv.ParseInt10At32
import Derived.Shelf.Strconv.ParseInt10At16
import Derived.Shelf.Strconv.ParseInt10At8
import Derived.Shelf.Strconv.ParseInt10All
import Derived.Shelf.Strconv.ParseIntPublic10
import Derived.Shelf.Strconv.ErrVarParseInt
import Derived.Shelf.Strings.Search1
import Derived.Test.YtpcipfnohfefhaaGreatDoorProg
namespace Go.Proofs
open Go.Shelf
def Tryz.lays137_ren:Go.Shelf.Ren:=⟨fun | 137=>121 | 217=>151 | 266=>179 | n=>n,fun | 9=>9 | 5=>5 | 3=>3 | n=>n,fun | n=>n⟩
theorem Tryz.lays137:Go.Proofs.Lays.n137 Tryz.prog Tryz.lays137_ren:={
  mixed:=by kernel_rfl
  f137:=Tryz.func121.trans (congrArg some (by kernel_rfl))
  f217:=Tryz.func151.trans (congrArg some (by kernel_rfl))
  f266:=Tryz.func179.trans (congrArg some (by kernel_rfl))
  t3:=Tryz.underlying3
  a3:=Tryz.isAgg3
  z3:=Tryz.sizeOf3
  v3:=Tryz.zeroValue3
  t5:=Tryz.underlying5
  a5:=Tryz.isAgg5
  z5:=Tryz.sizeOf5
  v5:=Tryz.zeroValue5
  t9:=Tryz.underlying9
  a9:=Tryz.isAgg9
  z9:=Tryz.sizeOf9
  v9:=Tryz.zeroValue9}
open Go.RowKit in
theorem Tryz.strings_IndexByte (s:ByteArray) (c:Int) (w:World) :
    Calls Tryz.prog 121 #[.string s,.int .u8 c] w λe w'=>e = .returned (.int .i64 (Lib.indexByte s.data.toList c.toNat.toUInt8))∧w'=w:=Any.strings_IndexByte Tryz.lays137 s c w
def Tryz.laysC174_ren:Go.Shelf.Ren:=⟨fun | 174=>118 | 247=>148 | 245=>149 | 287=>174 | 279=>175 | 280=>176 | 281=>177 | 282=>178 | 321=>189 | 322=>190 | 316=>191 | 171=>193 | 205=>192 | 243=>195 | 246=>196 | 283=>197 | 284=>198 | 285=>199 | 286=>200 | 129=>202 | 317=>201 | 318=>203 | 319=>204 | 320=>205 | 337=>206 | 338=>207 | n=>n,fun | 9=>9 | 3=>3 | 2=>2 | 75=>235 | 85=>236 | 4=>4 | 167=>280 | 5=>5 | 53=>281 | 175=>282 | 46=>284 | 168=>285 | 37=>295 | 0=>0 | 210=>297 | 21=>21 | 127=>302 | 145=>305 | 143=>303 | 171=>307 | 173=>310 | 212=>314 | 51=>315 | 20=>20 | 213=>316 | 232=>320 | 233=>321 | 80=>241 | n=>n,fun | 15=>0 | 16=>1 | 17=>3 | 18=>4 | 19=>5 | n=>n⟩
theorem Tryz.laysC174:Go.Proofs.LaysC.n174 Tryz.prog Tryz.laysC174_ren:={
  mixed:=by kernel_rfl
  f129:=Tryz.func202.trans (congrArg some (by kernel_rfl))
  f171:=Tryz.func193.trans (congrArg some (by kernel_rfl))
  f174:=Tryz.func118.trans (congrArg some (by kernel_rfl))
  f205:=Tryz.func192.trans (congrArg some (by kernel_rfl))
  f243:=Tryz.func195.trans (congrArg some (by kernel_rfl))
  f245:=Tryz.func149.trans (congrArg some (by kernel_rfl))
  f246:=Tryz.func196.trans (congrArg some (by kernel_rfl))
  f247:=Tryz.func148.trans (congrArg some (by kernel_rfl))
  f279:=Tryz.func175.trans (congrArg some (by kernel_rfl))
  f280:=Tryz.func176.trans (congrArg some (by kernel_rfl))
  f281:=Tryz.func177.trans (congrArg some (by kernel_rfl))
  f282:=Tryz.func178.trans (congrArg some (by kernel_rfl))
  f283:=Tryz.func197.trans (congrArg some (by kernel_rfl))
  f284:=Tryz.func198.trans (congrArg some (by kernel_rfl))
  f285:=Tryz.func199.trans (congrArg some (by kernel_rfl))
  f286:=Tryz.func200.trans (congrArg some (by kernel_rfl))
  f287:=Tryz.func174.trans (congrArg some (by kernel_rfl))
  f316:=Tryz.func191.trans (congrArg some (by kernel_rfl))
  f317:=Tryz.func201.trans (congrArg some (by kernel_rfl))
  f318:=Tryz.func203.trans (congrArg some (by kernel_rfl))
  f319:=Tryz.func204.trans (congrArg some (by kernel_rfl))
  f320:=Tryz.func205.trans (congrArg some (by kernel_rfl))
  f321:=Tryz.func189.trans (congrArg some (by kernel_rfl))
  f322:=Tryz.func190.trans (congrArg some (by kernel_rfl))
  f337:=Tryz.func206.trans (congrArg some (by kernel_rfl))
  f338:=Tryz.func207.trans (congrArg some (by kernel_rfl))
  t0:=Tryz.underlying0
  a0:=Tryz.isAgg0
  z0:=Tryz.sizeOf0
  v0:=Tryz.zeroValue0
  t2:=Tryz.underlying2
  a2:=Tryz.isAgg2
  z2:=Tryz.sizeOf2
  v2:=Tryz.zeroValue2
  t3:=Tryz.underlying3
  a3:=Tryz.isAgg3
  z3:=Tryz.sizeOf3
  v3:=Tryz.zeroValue3
  t4:=Tryz.underlying4
  a4:=Tryz.isAgg4
  z4:=Tryz.sizeOf4
  v4:=Tryz.zeroValue4
  t5:=Tryz.underlying5
  a5:=Tryz.isAgg5
  z5:=Tryz.sizeOf5
  v5:=Tryz.zeroValue5
  t9:=Tryz.underlying9
  a9:=Tryz.isAgg9
  z9:=Tryz.sizeOf9
  v9:=Tryz.zeroValue9
  t20:=Tryz.underlying20
  a20:=Tryz.isAgg20
  z20:=Tryz.sizeOf20
  v20:=Tryz.zeroValue20
  t21:=Tryz.underlying21
  a21:=Tryz.isAgg21
  z21:=Tryz.sizeOf21
  v21:=Tryz.zeroValue21
  t37:=Tryz.underlying295
  a37:=Tryz.isAgg295
  z37:=Tryz.sizeOf295
  v37:=Tryz.zeroValue295
  t46:=Tryz.underlying284
  a46:=Tryz.isAgg284
  z46:=Tryz.sizeOf284
  v46:=Tryz.zeroValue284
  t51:=Tryz.underlying315
  a51:=Tryz.isAgg315
  z51:=Tryz.sizeOf315
  v51:=Tryz.zeroValue315
  t53:=Tryz.underlying281
  a53:=Tryz.isAgg281
  z53:=Tryz.sizeOf281
  v53:=Tryz.zeroValue281
  t75:=Tryz.underlying235
  a75:=Tryz.isAgg235
  z75:=Tryz.sizeOf235
  v75:=Tryz.zeroValue235
  t85:=Tryz.underlying236
  a85:=Tryz.isAgg236
  z85:=Tryz.sizeOf236
  v85:=Tryz.zeroValue236
  t127:=Tryz.underlying302
  a127:=Tryz.isAgg302
  z127:=Tryz.sizeOf302
  v127:=Tryz.zeroValue302
  t143:=Tryz.underlying303
  a143:=Tryz.isAgg303
  z143:=Tryz.sizeOf303
  v143:=Tryz.zeroValue303
  t145:=Tryz.underlying305
  a145:=Tryz.isAgg305
  z145:=Tryz.sizeOf305
  v145:=Tryz.zeroValue305
  t167:=Tryz.underlying280
  a167:=Tryz.isAgg280
  z167:=Tryz.sizeOf280
  v167:=Tryz.zeroValue280
  t168:=Tryz.underlying285
  a168:=Tryz.isAgg285
  z168:=Tryz.sizeOf285
  v168:=Tryz.zeroValue285
  t171:=Tryz.underlying307
  a171:=Tryz.isAgg307
  z171:=Tryz.sizeOf307
  v171:=Tryz.zeroValue307
  t173:=Tryz.underlying310
  a173:=Tryz.isAgg310
  z173:=Tryz.sizeOf310
  v173:=Tryz.zeroValue310
  t175:=Tryz.underlying282
  a175:=Tryz.isAgg282
  z175:=Tryz.sizeOf282
  v175:=Tryz.zeroValue282
  t210:=Tryz.underlying297
  a210:=Tryz.isAgg297
  z210:=Tryz.sizeOf297
  v210:=Tryz.zeroValue297
  t212:=Tryz.underlying314
  a212:=Tryz.isAgg314
  z212:=Tryz.sizeOf314
  v212:=Tryz.zeroValue314
  t213:=Tryz.underlying316
  a213:=Tryz.isAgg316
  z213:=Tryz.sizeOf316
  t232:=Tryz.underlying320
  a232:=Tryz.isAgg320
  z232:=Tryz.sizeOf320
  v232:=Tryz.zeroValue320
  t233:=Tryz.underlying321
  a233:=Tryz.isAgg321
  z233:=Tryz.sizeOf321
  v233:=Tryz.zeroValue321
  g15:=by kernel_rfl
  g16:=by kernel_rfl
  g17:=by kernel_rfl
  g18:=by kernel_rfl
  g19:=by kernel_rfl
  t80:=Tryz.underlying241
  a80:=Tryz.isAgg241
  z80:=Tryz.sizeOf241
  v80:=Tryz.zeroValue241
  i0:=by kernel_rfl
  i2:=by kernel_rfl
  i3:=by kernel_rfl
  i4:=by kernel_rfl
  i5:=by kernel_rfl
  i9:=by kernel_rfl
  i20:=by kernel_rfl
  i21:=by kernel_rfl
  i37:=by kernel_rfl
  i46:=by kernel_rfl
  i51:=by kernel_rfl
  i53:=by kernel_rfl
  i75:=by kernel_rfl
  i80:=by kernel_rfl
  i85:=by kernel_rfl
  i127:=by kernel_rfl
  i143:=by kernel_rfl
  i145:=by kernel_rfl
  i167:=by kernel_rfl
  i168:=by kernel_rfl
  i171:=by kernel_rfl
  i173:=by kernel_rfl
  i175:=by kernel_rfl
  i210:=by kernel_rfl
  i212:=by kernel_rfl
  i232:=by kernel_rfl
  i233:=by kernel_rfl
  m15:=by kernel_rfl
  m16:=by kernel_rfl
  m17:=by kernel_rfl
  m18:=by kernel_rfl
  m19:=by kernel_rfl
  c0:=by kernel_rfl
  c2:=by kernel_rfl
  c3:=by kernel_rfl
  c4:=by kernel_rfl
  c5:=by kernel_rfl
  c9:=by kernel_rfl
  c20:=by kernel_rfl
  c21:=by kernel_rfl
  c37:=by kernel_rfl
  c46:=by kernel_rfl
  c51:=by kernel_rfl
  c53:=by kernel_rfl
  c75:=by kernel_rfl
  c80:=by kernel_rfl
  c85:=by kernel_rfl
  c127:=by kernel_rfl
  c143:=by kernel_rfl
  c145:=by kernel_rfl
  c167:=by kernel_rfl
  c168:=by kernel_rfl
  c171:=by kernel_rfl
  c173:=by kernel_rfl
  c175:=by kernel_rfl
  c210:=by kernel_rfl
  c212:=by kernel_rfl
  c213:=by kernel_rfl
  c232:=by kernel_rfl
  c233:=by kernel_rfl}
open Go.RowKit in
theorem Tryz.strconv_ParseInt_10_at64_ok (s:ByteArray) (hmax:s.size≤9223372036854775806) (v:Int) (h:Lib.parseIntB 64 s.data.toList = .ok v) (w:World) :
    Calls Tryz.prog 118 #[.string s,.int .i64 10,.int .i64 64] w λe w'=>e = .returned (.tuple #[.int .i64 v,.nilIface])∧(w'=w∨∃t,w'=Lib.bytesWorld w 5 t):=Any.strconv_ParseInt_10_at64_ok Tryz.laysC174 s hmax v h w
open Go.RowKit in
theorem Tryz.strconv_ParseInt_10_at64_syntax (s:ByteArray) (hlim:s.size≤281474976710656) (h:Lib.parseIntB 64 s.data.toList = .«syntax») (ev:Value) (w:World) (hv:w.cell? ⟨0,0,none⟩=some ev) (hev:ev = .nilIface∨∃te pe,ev = .iface te pe) :
    Calls Tryz.prog 118 #[.string s,.int .i64 10,.int .i64 64] w λe w'=>∃N,e = .returned (.tuple #[.int .i64 (0),.iface 285 (.pointer (some ⟨N,0,none⟩))])∧w.heap.size≤N∧w'.heap[N]?=some (.cells #[.string ⟨#[80,97,114,115,101,73,110,116]⟩,.string s,ev] 297 (0,0))∧Below w.heap.size w w':=Any.strconv_ParseInt_10_at64_syntax Tryz.laysC174 s hlim h ev w hv hev
open Go.RowKit in
theorem Tryz.strconv_ParseInt_10_at64_range (s:ByteArray) (hlim:s.size≤281474976710656) (h:Lib.parseIntB 64 s.data.toList = .range) (ev:Value) (w:World) (hv:w.cell? ⟨1,0,none⟩=some ev) (hev:ev = .nilIface∨∃te pe,ev = .iface te pe) :
    Calls Tryz.prog 118 #[.string s,.int .i64 10,.int .i64 64] w λe w'=>∃N,e = .returned (.tuple #[.int .i64 (Lib.intSat 64 s.data.toList),.iface 285 (.pointer (some ⟨N,0,none⟩))])∧w.heap.size≤N∧w'.heap[N]?=some (.cells #[.string ⟨#[80,97,114,115,101,73,110,116]⟩,.string s,ev] 297 (0,0))∧Below w.heap.size w w':=Any.strconv_ParseInt_10_at64_range Tryz.laysC174 s hlim h ev w hv hev
end Go.Proofs
