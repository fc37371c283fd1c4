/- Part Sf. -/
import Derived.Test.YtlhommikjhhmbaaGreatDoorA7
import Derived.Shelf.Small.Strs
import Derived.Shelf.Strconv.Itoa0
import Derived.Shelf.Strconv.Itoa1
import Derived.Shelf.LaysM
import Derived.Shelf.Strconv.Itoa2
import Derived.Shelf.Strconv.Itoa3
import Derived.Shelf.Strconv.ParseIntEmpty
import Derived.Shelf.Strconv.Clone
import Derived.Shelf.Strconv.SyntaxError
import Derived.Shelf.LaysC
import Derived.Shelf.Strconv.ToError
import Derived.Shelf.Strconv.Lower
import Derived.Shelf.Strconv.ParseUint10
import Derived.Shelf.Strconv.ParseUint10Empty
import Derived.Shelf.Strconv.ParseUint10Any
import Derived.Shelf.Strconv.ParseInt10
import Derived.Shelf.Strconv.RangeError
import Derived.Shelf.Strconv.ToErrorRange
import Derived.Shelf.Strconv.ParseUintEmpty
import Derived.Shelf.Strconv.ParseUint10b64
import Derived.Shelf.Strconv.ParseUint10b32
import Derived.Shelf.Strconv.ParseUint10b16
import Derived.Shelf.Strconv.ParseUint10b8
import Derived.Shelf.Strconv.ParseUint10At
import Derived.Shelf.Strconv.ParseInt10At64
import Derived.Shelf.Strconv.ParseInt10At32
import Derived.Shelf.Strconv.ParseInt10At16
import Derived.Shelf.Strconv.ParseInt10At8
import Derived.Shelf.Strconv.ParseInt10All
import Derived.Shelf.Strconv.ParseIntPublic10
import Derived.Shelf.Strconv.ErrVarParseInt
import Derived.Shelf.Strings.Search1
import Derived.Shelf.Slices.Turned
import Derived.Ground.SlgnProg
import Derived.Shelf.SlicesE.Clone
import Derived.Test.YtlhommikjhhmbaaGreatDoorProg
namespace Go.Proofs
open Go.Shelf
def Tryz.lays137_ren:Go.Shelf.Ren:=⟨fun | 137=>136 | 217=>172 | 266=>193 | n=>n,fun | 9=>9 | 5=>5 | 3=>3 | n=>n,fun | n=>n⟩
theorem Tryz.lays137:Go.Proofs.Lays.n137 Tryz.prog Tryz.lays137_ren:={
 mixed:=by kernel_rfl
 f137:=Tryz.func136.trans (congrArg some (by kernel_rfl))
 f217:=Tryz.func172.trans (congrArg some (by kernel_rfl))
 f266:=Tryz.func193.trans (congrArg some (by kernel_rfl))
 t3:=Tryz.underlying3
 a3:=Tryz.isAgg3
 z3:=Tryz.sizeOf3
 v3:=Tryz.zeroValue3
 t5:=Tryz.underlying5
 a5:=Tryz.isAgg5
 z5:=Tryz.sizeOf5
 v5:=Tryz.zeroValue5
 t9:=Tryz.underlying9
 a9:=Tryz.isAgg9
 z9:=Tryz.sizeOf9
 v9:=Tryz.zeroValue9}
open Go.RowKit in
theorem Tryz.strings_IndexByte (s:ByteArray) (c:Int) (w:World) :
    Calls Tryz.prog 136 #[.string s,.int .u8 c] w λe w'=>e = .returned (.int .i64 (Lib.indexByte s.data.toList c.toNat.toUInt8))∧w'=w:=Any.strings_IndexByte Tryz.lays137 s c w
def Tryz.laysC174_ren:Go.Shelf.Ren:=⟨fun | 174=>133 | 247=>169 | 245=>170 | 287=>188 | 279=>189 | 280=>190 | 281=>191 | 282=>192 | 321=>196 | 322=>197 | 316=>198 | 171=>200 | 205=>199 | 243=>201 | 246=>202 | 283=>203 | 284=>204 | 285=>205 | 286=>206 | 129=>208 | 317=>207 | 318=>209 | 319=>210 | 320=>211 | 337=>212 | 338=>213 | n=>n,fun | 9=>9 | 3=>3 | 2=>2 | 75=>268 | 85=>269 | 4=>4 | 167=>307 | 5=>5 | 53=>308 | 175=>309 | 46=>311 | 168=>312 | 37=>316 | 0=>0 | 210=>318 | 21=>21 | 127=>322 | 145=>325 | 143=>323 | 171=>327 | 173=>330 | 212=>333 | 51=>334 | 20=>20 | 213=>335 | 232=>339 | 233=>340 | 80=>274 | n=>n,fun | 15=>0 | 16=>1 | 17=>3 | 18=>4 | 19=>5 | n=>n⟩
theorem Tryz.laysC174:Go.Proofs.LaysC.n174 Tryz.prog Tryz.laysC174_ren:={
 mixed:=by kernel_rfl
 f129:=Tryz.func208.trans (congrArg some (by kernel_rfl))
 f171:=Tryz.func200.trans (congrArg some (by kernel_rfl))
 f174:=Tryz.func133.trans (congrArg some (by kernel_rfl))
 f205:=Tryz.func199.trans (congrArg some (by kernel_rfl))
 f243:=Tryz.func201.trans (congrArg some (by kernel_rfl))
 f245:=Tryz.func170.trans (congrArg some (by kernel_rfl))
 f246:=Tryz.func202.trans (congrArg some (by kernel_rfl))
 f247:=Tryz.func169.trans (congrArg some (by kernel_rfl))
 f279:=Tryz.func189.trans (congrArg some (by kernel_rfl))
 f280:=Tryz.func190.trans (congrArg some (by kernel_rfl))
 f281:=Tryz.func191.trans (congrArg some (by kernel_rfl))
 f282:=Tryz.func192.trans (congrArg some (by kernel_rfl))
 f283:=Tryz.func203.trans (congrArg some (by kernel_rfl))
 f284:=Tryz.func204.trans (congrArg some (by kernel_rfl))
 f285:=Tryz.func205.trans (congrArg some (by kernel_rfl))
 f286:=Tryz.func206.trans (congrArg some (by kernel_rfl))
 f287:=Tryz.func188.trans (congrArg some (by kernel_rfl))
 f316:=Tryz.func198.trans (congrArg some (by kernel_rfl))
 f317:=Tryz.func207.trans (congrArg some (by kernel_rfl))
 f318:=Tryz.func209.trans (congrArg some (by kernel_rfl))
 f319:=Tryz.func210.trans (congrArg some (by kernel_rfl))
 f320:=Tryz.func211.trans (congrArg some (by kernel_rfl))
 f321:=Tryz.func196.trans (congrArg some (by kernel_rfl))
 f322:=Tryz.func197.trans (congrArg some (by kernel_rfl))
 f337:=Tryz.func212.trans (congrArg some (by kernel_rfl))
 f338:=Tryz.func213.trans (congrArg some (by kernel_rfl))
 t0:=Tryz.underlying0
 a0:=Tryz.isAgg0
 z0:=Tryz.sizeOf0
 v0:=Tryz.zeroValue0
 t2:=Tryz.underlying2
 a2:=Tryz.isAgg2
 z2:=Tryz.sizeOf2
 v2:=Tryz.zeroValue2
 t3:=Tryz.underlying3
 a3:=Tryz.isAgg3
 z3:=Tryz.sizeOf3
 v3:=Tryz.zeroValue3
 t4:=Tryz.underlying4
 a4:=Tryz.isAgg4
 z4:=Tryz.sizeOf4
 v4:=Tryz.zeroValue4
 t5:=Tryz.underlying5
 a5:=Tryz.isAgg5
 z5:=Tryz.sizeOf5
 v5:=Tryz.zeroValue5
 t9:=Tryz.underlying9
 a9:=Tryz.isAgg9
 z9:=Tryz.sizeOf9
 v9:=Tryz.zeroValue9
 t20:=Tryz.underlying20
 a20:=Tryz.isAgg20
 z20:=Tryz.sizeOf20
 v20:=Tryz.zeroValue20
 t21:=Tryz.underlying21
 a21:=Tryz.isAgg21
 z21:=Tryz.sizeOf21
 v21:=Tryz.zeroValue21
 t37:=Tryz.underlying316
 a37:=Tryz.isAgg316
 z37:=Tryz.sizeOf316
 v37:=Tryz.zeroValue316
 t46:=Tryz.underlying311
 a46:=Tryz.isAgg311
 z46:=Tryz.sizeOf311
 v46:=Tryz.zeroValue311
 t51:=Tryz.underlying334
 a51:=Tryz.isAgg334
 z51:=Tryz.sizeOf334
 v51:=Tryz.zeroValue334
 t53:=Tryz.underlying308
 a53:=Tryz.isAgg308
 z53:=Tryz.sizeOf308
 v53:=Tryz.zeroValue308
 t75:=Tryz.underlying268
 a75:=Tryz.isAgg268
 z75:=Tryz.sizeOf268
 v75:=Tryz.zeroValue268
 t85:=Tryz.underlying269
 a85:=Tryz.isAgg269
 z85:=Tryz.sizeOf269
 v85:=Tryz.zeroValue269
 t127:=Tryz.underlying322
 a127:=Tryz.isAgg322
 z127:=Tryz.sizeOf322
 v127:=Tryz.zeroValue322
 t143:=Tryz.underlying323
 a143:=Tryz.isAgg323
 z143:=Tryz.sizeOf323
 v143:=Tryz.zeroValue323
 t145:=Tryz.underlying325
 a145:=Tryz.isAgg325
 z145:=Tryz.sizeOf325
 v145:=Tryz.zeroValue325
 t167:=Tryz.underlying307
 a167:=Tryz.isAgg307
 z167:=Tryz.sizeOf307
 v167:=Tryz.zeroValue307
 t168:=Tryz.underlying312
 a168:=Tryz.isAgg312
 z168:=Tryz.sizeOf312
 v168:=Tryz.zeroValue312
 t171:=Tryz.underlying327
 a171:=Tryz.isAgg327
 z171:=Tryz.sizeOf327
 v171:=Tryz.zeroValue327
 t173:=Tryz.underlying330
 a173:=Tryz.isAgg330
 z173:=Tryz.sizeOf330
 v173:=Tryz.zeroValue330
 t175:=Tryz.underlying309
 a175:=Tryz.isAgg309
 z175:=Tryz.sizeOf309
 v175:=Tryz.zeroValue309
 t210:=Tryz.underlying318
 a210:=Tryz.isAgg318
 z210:=Tryz.sizeOf318
 v210:=Tryz.zeroValue318
 t212:=Tryz.underlying333
 a212:=Tryz.isAgg333
 z212:=Tryz.sizeOf333
 v212:=Tryz.zeroValue333
 t213:=Tryz.underlying335
 a213:=Tryz.isAgg335
 z213:=Tryz.sizeOf335
 t232:=Tryz.underlying339
 a232:=Tryz.isAgg339
 z232:=Tryz.sizeOf339
 v232:=Tryz.zeroValue339
 t233:=Tryz.underlying340
 a233:=Tryz.isAgg340
 z233:=Tryz.sizeOf340
 v233:=Tryz.zeroValue340
 g15:=by kernel_rfl
 g16:=by kernel_rfl
 g17:=by kernel_rfl
 g18:=by kernel_rfl
 g19:=by kernel_rfl
 t80:=Tryz.underlying274
 a80:=Tryz.isAgg274
 z80:=Tryz.sizeOf274
 v80:=Tryz.zeroValue274
 i0:=by kernel_rfl
 i2:=by kernel_rfl
 i3:=by kernel_rfl
 i4:=by kernel_rfl
 i5:=by kernel_rfl
 i9:=by kernel_rfl
 i20:=by kernel_rfl
 i21:=by kernel_rfl
 i37:=by kernel_rfl
 i46:=by kernel_rfl
 i51:=by kernel_rfl
 i53:=by kernel_rfl
 i75:=by kernel_rfl
 i80:=by kernel_rfl
 i85:=by kernel_rfl
 i127:=by kernel_rfl
 i143:=by kernel_rfl
 i145:=by kernel_rfl
 i167:=by kernel_rfl
 i168:=by kernel_rfl
 i171:=by kernel_rfl
 i173:=by kernel_rfl
 i175:=by kernel_rfl
 i210:=by kernel_rfl
 i212:=by kernel_rfl
 i232:=by kernel_rfl
 i233:=by kernel_rfl
 m15:=by kernel_rfl
 m16:=by kernel_rfl
 m17:=by kernel_rfl
 m18:=by kernel_rfl
 m19:=by kernel_rfl
 c0:=by kernel_rfl
 c2:=by kernel_rfl
 c3:=by kernel_rfl
 c4:=by kernel_rfl
 c5:=by kernel_rfl
 c9:=by kernel_rfl
 c20:=by kernel_rfl
 c21:=by kernel_rfl
 c37:=by kernel_rfl
 c46:=by kernel_rfl
 c51:=by kernel_rfl
 c53:=by kernel_rfl
 c75:=by kernel_rfl
 c80:=by kernel_rfl
 c85:=by kernel_rfl
 c127:=by kernel_rfl
 c143:=by kernel_rfl
 c145:=by kernel_rfl
 c167:=by kernel_rfl
 c168:=by kernel_rfl
 c171:=by kernel_rfl
 c173:=by kernel_rfl
 c175:=by kernel_rfl
 c210:=by kernel_rfl
 c212:=by kernel_rfl
 c213:=by kernel_rfl
 c232:=by kernel_rfl
 c233:=by kernel_rfl}
open Go.RowKit in
theorem Tryz.strconv_ParseInt_10_at64_ok (s:ByteArray) (a:s.size≤9223372036854775806) (v:Int) (h:Lib.parseIntB 64 s.data.toList = .ok v) (w:World) :
    Calls Tryz.prog 133 #[.string s,.int .i64 10,.int .i64 64] w λe w'=>e = .returned (.tuple #[.int .i64 v,.nilIface])∧(w'=w∨∃t,w'=Lib.bytesWorld w 5 t):=Any.strconv_ParseInt_10_at64_ok Tryz.laysC174 s a v h w
open Go.RowKit in
theorem Tryz.strconv_ParseInt_10_at64_syntax (s:ByteArray) (a:s.size≤281474976710656) (h:Lib.parseIntB 64 s.data.toList = .«syntax») (b:Value) (w:World) (g:w.cell? ⟨0,0,none⟩=some b) (c:b = .nilIface∨∃d f,b = .iface d f) :
    Calls Tryz.prog 133 #[.string s,.int .i64 10,.int .i64 64] w λe w'=>∃N,e = .returned (.tuple #[.int .i64 (0),.iface 312 (.pointer (some ⟨N,0,none⟩))])∧w.heap.size≤N∧w'.heap[N]?=some (.cells #[.string ⟨#[80,97,114,115,101,73,110,116]⟩,.string s,b] 318 (0,0))∧Below w.heap.size w w':=Any.strconv_ParseInt_10_at64_syntax Tryz.laysC174 s a h b w g c
open Go.RowKit in
theorem Tryz.strconv_ParseInt_10_at64_range (s:ByteArray) (a:s.size≤281474976710656) (h:Lib.parseIntB 64 s.data.toList = .range) (b:Value) (w:World) (g:w.cell? ⟨1,0,none⟩=some b) (c:b = .nilIface∨∃d f,b = .iface d f) :
    Calls Tryz.prog 133 #[.string s,.int .i64 10,.int .i64 64] w λe w'=>∃N,e = .returned (.tuple #[.int .i64 (Lib.intSat 64 s.data.toList),.iface 312 (.pointer (some ⟨N,0,none⟩))])∧w.heap.size≤N∧w'.heap[N]?=some (.cells #[.string ⟨#[80,97,114,115,101,73,110,116]⟩,.string s,b] 318 (0,0))∧Below w.heap.size w w':=Any.strconv_ParseInt_10_at64_range Tryz.laysC174 s a h b w g c
end Go.Proofs
