/- Part Sf. -/
import Derived.Test.YtnkjgenigoecjaaGreatDoorA7
import Derived.Shelf.Small.Strs
import Derived.Shelf.Strconv.Itoa0
import Derived.Shelf.Strconv.Itoa1
import Derived.Shelf.LaysM
import Derived.Shelf.Strconv.Itoa2
import Derived.Shelf.Strconv.Itoa3
import Derived.Shelf.Strconv.ParseIntEmpty
import Derived.Shelf.Strconv.Clone
import Derived.Shelf.Strconv.SyntaxError
import Derived.Shelf.LaysC
import Derived.Shelf.Strconv.ToError
import Derived.Shelf.Strconv.Lower
import Derived.Shelf.Strconv.ParseUint10
import Derived.Shelf.Strconv.ParseUint10Empty
import Derived.Shelf.Strconv.ParseUint10Any
import Derived.Shelf.Strconv.ParseInt10
import Derived.Shelf.Strconv.RangeError
import Derived.Shelf.Strconv.ToErrorRange
import Derived.Shelf.Strconv.ParseUintEmpty
import Derived.Shelf.Strconv.ParseUint10b64
import Derived.Shelf.Strconv.ParseUint10b32
import Derived.Shelf.Strconv.ParseUint10b16
import Derived.Shelf.Strconv.ParseUint10b8
import Derived.Shelf.Strconv.ParseUint10At
import Derived.Shelf.Strconv.ParseInt10At64
import Derived.Shelf.Strconv.ParseInt10At32
import Derived.Shelf.Strconv.ParseInt10At16
import Derived.Shelf.Strconv.ParseInt10At8
import Derived.Shelf.Strconv.ParseInt10All
import Derived.Shelf.Strconv.ParseIntPublic10
import Derived.Shelf.Strconv.ErrVarParseInt
import Derived.Shelf.Strings.Search1
import Derived.Shelf.Slices.Turned
import Derived.Ground.SlgnProg
import Derived.Shelf.SlicesE.Clone
import Derived.Test.YtnkjgenigoecjaaGreatDoorProg
namespace Go.Proofs
open Go.Shelf
def Tryz.lays137_ren:Go.Shelf.Ren:=⟨fun | 137=>132 | 217=>170 | 266=>192 | n=>n,fun | 9=>9 | 5=>5 | 3=>3 | n=>n,fun | n=>n⟩
theorem Tryz.lays137:Go.Proofs.Lays.n137 Tryz.prog Tryz.lays137_ren:={
 mixed:=by kernel_rfl
 f137:=Tryz.func132.trans (congrArg some (by kernel_rfl))
 f217:=Tryz.func170.trans (congrArg some (by kernel_rfl))
 f266:=Tryz.func192.trans (congrArg some (by kernel_rfl))
 t3:=Tryz.underlying3
 a3:=Tryz.isAgg3
 z3:=Tryz.sizeOf3
 v3:=Tryz.zeroValue3
 t5:=Tryz.underlying5
 a5:=Tryz.isAgg5
 z5:=Tryz.sizeOf5
 v5:=Tryz.zeroValue5
 t9:=Tryz.underlying9
 a9:=Tryz.isAgg9
 z9:=Tryz.sizeOf9
 v9:=Tryz.zeroValue9}
open Go.RowKit in
theorem Tryz.strings_IndexByte (s:ByteArray) (c:Int) (w:World) :
    Calls Tryz.prog 132 #[.string s,.int .u8 c] w λe w'=>e = .returned (.int .i64 (Lib.indexByte s.data.toList c.toNat.toUInt8))∧w'=w:=Any.strings_IndexByte Tryz.lays137 s c w
def Tryz.laysC174_ren:Go.Shelf.Ren:=⟨fun | 174=>129 | 247=>167 | 245=>168 | 287=>187 | 279=>188 | 280=>189 | 281=>190 | 282=>191 | 321=>195 | 322=>196 | 316=>197 | 171=>199 | 205=>198 | 243=>200 | 246=>201 | 283=>202 | 284=>203 | 285=>204 | 286=>205 | 129=>207 | 317=>206 | 318=>208 | 319=>209 | 320=>210 | 337=>211 | 338=>212 | n=>n,fun | 9=>9 | 3=>3 | 2=>2 | 75=>258 | 85=>259 | 4=>4 | 167=>306 | 5=>5 | 53=>307 | 175=>308 | 46=>310 | 168=>311 | 37=>315 | 0=>0 | 210=>317 | 21=>21 | 127=>321 | 145=>324 | 143=>322 | 171=>326 | 173=>329 | 212=>332 | 51=>333 | 20=>20 | 213=>334 | 232=>338 | 233=>339 | 80=>264 | n=>n,fun | 15=>0 | 16=>1 | 17=>3 | 18=>4 | 19=>5 | n=>n⟩
theorem Tryz.laysC174:Go.Proofs.LaysC.n174 Tryz.prog Tryz.laysC174_ren:={
 mixed:=by kernel_rfl
 f129:=Tryz.func207.trans (congrArg some (by kernel_rfl))
 f171:=Tryz.func199.trans (congrArg some (by kernel_rfl))
 f174:=Tryz.func129.trans (congrArg some (by kernel_rfl))
 f205:=Tryz.func198.trans (congrArg some (by kernel_rfl))
 f243:=Tryz.func200.trans (congrArg some (by kernel_rfl))
 f245:=Tryz.func168.trans (congrArg some (by kernel_rfl))
 f246:=Tryz.func201.trans (congrArg some (by kernel_rfl))
 f247:=Tryz.func167.trans (congrArg some (by kernel_rfl))
 f279:=Tryz.func188.trans (congrArg some (by kernel_rfl))
 f280:=Tryz.func189.trans (congrArg some (by kernel_rfl))
 f281:=Tryz.func190.trans (congrArg some (by kernel_rfl))
 f282:=Tryz.func191.trans (congrArg some (by kernel_rfl))
 f283:=Tryz.func202.trans (congrArg some (by kernel_rfl))
 f284:=Tryz.func203.trans (congrArg some (by kernel_rfl))
 f285:=Tryz.func204.trans (congrArg some (by kernel_rfl))
 f286:=Tryz.func205.trans (congrArg some (by kernel_rfl))
 f287:=Tryz.func187.trans (congrArg some (by kernel_rfl))
 f316:=Tryz.func197.trans (congrArg some (by kernel_rfl))
 f317:=Tryz.func206.trans (congrArg some (by kernel_rfl))
 f318:=Tryz.func208.trans (congrArg some (by kernel_rfl))
 f319:=Tryz.func209.trans (congrArg some (by kernel_rfl))
 f320:=Tryz.func210.trans (congrArg some (by kernel_rfl))
 f321:=Tryz.func195.trans (congrArg some (by kernel_rfl))
 f322:=Tryz.func196.trans (congrArg some (by kernel_rfl))
 f337:=Tryz.func211.trans (congrArg some (by kernel_rfl))
 f338:=Tryz.func212.trans (congrArg some (by kernel_rfl))
 t0:=Tryz.underlying0
 a0:=Tryz.isAgg0
 z0:=Tryz.sizeOf0
 v0:=Tryz.zeroValue0
 t2:=Tryz.underlying2
 a2:=Tryz.isAgg2
 z2:=Tryz.sizeOf2
 v2:=Tryz.zeroValue2
 t3:=Tryz.underlying3
 a3:=Tryz.isAgg3
 z3:=Tryz.sizeOf3
 v3:=Tryz.zeroValue3
 t4:=Tryz.underlying4
 a4:=Tryz.isAgg4
 z4:=Tryz.sizeOf4
 v4:=Tryz.zeroValue4
 t5:=Tryz.underlying5
 a5:=Tryz.isAgg5
 z5:=Tryz.sizeOf5
 v5:=Tryz.zeroValue5
 t9:=Tryz.underlying9
 a9:=Tryz.isAgg9
 z9:=Tryz.sizeOf9
 v9:=Tryz.zeroValue9
 t20:=Tryz.underlying20
 a20:=Tryz.isAgg20
 z20:=Tryz.sizeOf20
 v20:=Tryz.zeroValue20
 t21:=Tryz.underlying21
 a21:=Tryz.isAgg21
 z21:=Tryz.sizeOf21
 v21:=Tryz.zeroValue21
 t37:=Tryz.underlying315
 a37:=Tryz.isAgg315
 z37:=Tryz.sizeOf315
 v37:=Tryz.zeroValue315
 t46:=Tryz.underlying310
 a46:=Tryz.isAgg310
 z46:=Tryz.sizeOf310
 v46:=Tryz.zeroValue310
 t51:=Tryz.underlying333
 a51:=Tryz.isAgg333
 z51:=Tryz.sizeOf333
 v51:=Tryz.zeroValue333
 t53:=Tryz.underlying307
 a53:=Tryz.isAgg307
 z53:=Tryz.sizeOf307
 v53:=Tryz.zeroValue307
 t75:=Tryz.underlying258
 a75:=Tryz.isAgg258
 z75:=Tryz.sizeOf258
 v75:=Tryz.zeroValue258
 t85:=Tryz.underlying259
 a85:=Tryz.isAgg259
 z85:=Tryz.sizeOf259
 v85:=Tryz.zeroValue259
 t127:=Tryz.underlying321
 a127:=Tryz.isAgg321
 z127:=Tryz.sizeOf321
 v127:=Tryz.zeroValue321
 t143:=Tryz.underlying322
 a143:=Tryz.isAgg322
 z143:=Tryz.sizeOf322
 v143:=Tryz.zeroValue322
 t145:=Tryz.underlying324
 a145:=Tryz.isAgg324
 z145:=Tryz.sizeOf324
 v145:=Tryz.zeroValue324
 t167:=Tryz.underlying306
 a167:=Tryz.isAgg306
 z167:=Tryz.sizeOf306
 v167:=Tryz.zeroValue306
 t168:=Tryz.underlying311
 a168:=Tryz.isAgg311
 z168:=Tryz.sizeOf311
 v168:=Tryz.zeroValue311
 t171:=Tryz.underlying326
 a171:=Tryz.isAgg326
 z171:=Tryz.sizeOf326
 v171:=Tryz.zeroValue326
 t173:=Tryz.underlying329
 a173:=Tryz.isAgg329
 z173:=Tryz.sizeOf329
 v173:=Tryz.zeroValue329
 t175:=Tryz.underlying308
 a175:=Tryz.isAgg308
 z175:=Tryz.sizeOf308
 v175:=Tryz.zeroValue308
 t210:=Tryz.underlying317
 a210:=Tryz.isAgg317
 z210:=Tryz.sizeOf317
 v210:=Tryz.zeroValue317
 t212:=Tryz.underlying332
 a212:=Tryz.isAgg332
 z212:=Tryz.sizeOf332
 v212:=Tryz.zeroValue332
 t213:=Tryz.underlying334
 a213:=Tryz.isAgg334
 z213:=Tryz.sizeOf334
 t232:=Tryz.underlying338
 a232:=Tryz.isAgg338
 z232:=Tryz.sizeOf338
 v232:=Tryz.zeroValue338
 t233:=Tryz.underlying339
 a233:=Tryz.isAgg339
 z233:=Tryz.sizeOf339
 v233:=Tryz.zeroValue339
 g15:=by kernel_rfl
 g16:=by kernel_rfl
 g17:=by kernel_rfl
 g18:=by kernel_rfl
 g19:=by kernel_rfl
 t80:=Tryz.underlying264
 a80:=Tryz.isAgg264
 z80:=Tryz.sizeOf264
 v80:=Tryz.zeroValue264
 i0:=by kernel_rfl
 i2:=by kernel_rfl
 i3:=by kernel_rfl
 i4:=by kernel_rfl
 i5:=by kernel_rfl
 i9:=by kernel_rfl
 i20:=by kernel_rfl
 i21:=by kernel_rfl
 i37:=by kernel_rfl
 i46:=by kernel_rfl
 i51:=by kernel_rfl
 i53:=by kernel_rfl
 i75:=by kernel_rfl
 i80:=by kernel_rfl
 i85:=by kernel_rfl
 i127:=by kernel_rfl
 i143:=by kernel_rfl
 i145:=by kernel_rfl
 i167:=by kernel_rfl
 i168:=by kernel_rfl
 i171:=by kernel_rfl
 i173:=by kernel_rfl
 i175:=by kernel_rfl
 i210:=by kernel_rfl
 i212:=by kernel_rfl
 i232:=by kernel_rfl
 i233:=by kernel_rfl
 m15:=by kernel_rfl
 m16:=by kernel_rfl
 m17:=by kernel_rfl
 m18:=by kernel_rfl
 m19:=by kernel_rfl
 c0:=by kernel_rfl
 c2:=by kernel_rfl
 c3:=by kernel_rfl
 c4:=by kernel_rfl
 c5:=by kernel_rfl
 c9:=by kernel_rfl
 c20:=by kernel_rfl
 c21:=by kernel_rfl
 c37:=by kernel_rfl
 c46:=by kernel_rfl
 c51:=by kernel_rfl
 c53:=by kernel_rfl
 c75:=by kernel_rfl
 c80:=by kernel_rfl
 c85:=by kernel_rfl
 c127:=by kernel_rfl
 c143:=by kernel_rfl
 c145:=by kernel_rfl
 c167:=by kernel_rfl
 c168:=by kernel_rfl
 c171:=by kernel_rfl
 c173:=by kernel_rfl
 c175:=by kernel_rfl
 c210:=by kernel_rfl
 c212:=by kernel_rfl
 c213:=by kernel_rfl
 c232:=by kernel_rfl
 c233:=by kernel_rfl}
open Go.RowKit in
theorem Tryz.strconv_ParseInt_10_at64_ok (s:ByteArray) (hmax:s.size≤9223372036854775806) (v:Int) (h:Lib.parseIntB 64 s.data.toList = .ok v) (w:World) :
    Calls Tryz.prog 129 #[.string s,.int .i64 10,.int .i64 64] w λe w'=>e = .returned (.tuple #[.int .i64 v,.nilIface])∧(w'=w∨∃t,w'=Lib.bytesWorld w 5 t):=Any.strconv_ParseInt_10_at64_ok Tryz.laysC174 s hmax v h w
open Go.RowKit in
theorem Tryz.strconv_ParseInt_10_at64_syntax (s:ByteArray) (hlim:s.size≤281474976710656) (h:Lib.parseIntB 64 s.data.toList = .«syntax») (ev:Value) (w:World) (hv:w.cell? ⟨0,0,none⟩=some ev) (hev:ev = .nilIface∨∃te pe,ev = .iface te pe) :
    Calls Tryz.prog 129 #[.string s,.int .i64 10,.int .i64 64] w λe w'=>∃N,e = .returned (.tuple #[.int .i64 (0),.iface 311 (.pointer (some ⟨N,0,none⟩))])∧w.heap.size≤N∧w'.heap[N]?=some (.cells #[.string ⟨#[80,97,114,115,101,73,110,116]⟩,.string s,ev] 317 (0,0))∧Below w.heap.size w w':=Any.strconv_ParseInt_10_at64_syntax Tryz.laysC174 s hlim h ev w hv hev
open Go.RowKit in
theorem Tryz.strconv_ParseInt_10_at64_range (s:ByteArray) (hlim:s.size≤281474976710656) (h:Lib.parseIntB 64 s.data.toList = .range) (ev:Value) (w:World) (hv:w.cell? ⟨1,0,none⟩=some ev) (hev:ev = .nilIface∨∃te pe,ev = .iface te pe) :
    Calls Tryz.prog 129 #[.string s,.int .i64 10,.int .i64 64] w λe w'=>∃N,e = .returned (.tuple #[.int .i64 (Lib.intSat 64 s.data.toList),.iface 311 (.pointer (some ⟨N,0,none⟩))])∧w.heap.size≤N∧w'.heap[N]?=some (.cells #[.string ⟨#[80,97,114,115,101,73,110,116]⟩,.string s,ev] 317 (0,0))∧Below w.heap.size w w':=Any.strconv_ParseInt_10_at64_range Tryz.laysC174 s hlim h ev w hv hev
end Go.Proofs
