/- Part Sf. -/
import Derived.Test.YthnflpoohleiaaaGreatDoorA7
import Derived.Shelf.Small.Strs
import Derived.Shelf.Strconv.ParseIntEmpty
import Derived.Shelf.LaysM
import Derived.Shelf.Strconv.Clone
import Derived.Shelf.Strconv.SyntaxError
import Derived.Shelf.LaysC
import Derived.Shelf.Strconv.ToError
import Derived.Shelf.Strconv.Lower
import Derived.Shelf.Strconv.ParseUint10
import Derived.Shelf.Strconv.ParseUint10Empty
import Derived.Shelf.Strconv.ParseUint10Any
import Derived.Shelf.Strconv.ParseInt10
import Derived.Shelf.Strconv.RangeError
import Derived.Shelf.Strconv.ToErrorRange
import Derived.Shelf.Strconv.ParseUintEmpty
import Derived.Shelf.Strconv.ParseUint10b64
import Derived.Shelf.Strconv.ParseUint10b32
import Derived.Shelf.Strconv.ParseUint10b16
import Derived.Shelf.Strconv.ParseUint10b8
import Derived.Shelf.Strconv.ParseUint10At
import Derived.Shelf.Strconv.ParseInt10At64
import Derived.Shelf.Strconv.ParseInt10At32
import Derived.Shelf.Strconv.ParseInt10At16
import Derived.Shelf.Strconv.ParseInt10At8
import Derived.Shelf.Strconv.ParseInt10All
import Derived.Shelf.Strconv.ParseIntPublic10
import Derived.Shelf.Strconv.ErrVarParseInt
import Derived.Shelf.Strings.Search1
import Derived.Test.YthnflpoohleiaaaGreatDoorProg
namespace Go.Proofs
open Go.Shelf
def Tryz.lays137_ren:Go.Shelf.Ren:=⟨fun | 137=>133 | 217=>170 | 266=>191 | n=>n,fun | 9=>9 | 5=>5 | 3=>3 | n=>n,fun | n=>n⟩
theorem Tryz.lays137:Go.Proofs.Lays.n137 Tryz.prog Tryz.lays137_ren:={
 mixed:=by kernel_rfl
 f137:=Tryz.func133.trans (congrArg some (by kernel_rfl))
 f217:=Tryz.func170.trans (congrArg some (by kernel_rfl))
 f266:=Tryz.func191.trans (congrArg some (by kernel_rfl))
 t3:=Tryz.underlying3
 a3:=Tryz.isAgg3
 z3:=Tryz.sizeOf3
 v3:=Tryz.zeroValue3
 t5:=Tryz.underlying5
 a5:=Tryz.isAgg5
 z5:=Tryz.sizeOf5
 v5:=Tryz.zeroValue5
 t9:=Tryz.underlying9
 a9:=Tryz.isAgg9
 z9:=Tryz.sizeOf9
 v9:=Tryz.zeroValue9}
open Go.RowKit in
theorem Tryz.strings_IndexByte (s:ByteArray) (c:Int) (w:World) :
    Calls Tryz.prog 133 #[.string s,.int .u8 c] w λe w'=>e = .returned (.int .i64 (Lib.indexByte s.data.toList c.toNat.toUInt8))∧w'=w:=Any.strings_IndexByte Tryz.lays137 s c w
def Tryz.laysC174_ren:Go.Shelf.Ren:=⟨fun | 174=>130 | 247=>167 | 245=>168 | 287=>186 | 279=>187 | 280=>188 | 281=>189 | 282=>190 | 321=>194 | 322=>195 | 316=>196 | 171=>198 | 205=>197 | 243=>199 | 246=>200 | 283=>201 | 284=>202 | 285=>203 | 286=>204 | 129=>206 | 317=>205 | 318=>207 | 319=>208 | 320=>209 | 337=>210 | 338=>211 | n=>n,fun | 9=>9 | 3=>3 | 2=>2 | 75=>262 | 85=>263 | 4=>4 | 167=>305 | 5=>5 | 53=>306 | 175=>307 | 46=>309 | 168=>310 | 37=>314 | 0=>0 | 210=>316 | 21=>21 | 127=>320 | 145=>323 | 143=>321 | 171=>325 | 173=>328 | 212=>331 | 51=>332 | 20=>20 | 213=>333 | 232=>337 | 233=>338 | 80=>269 | n=>n,fun | 15=>0 | 16=>1 | 17=>3 | 18=>4 | 19=>5 | n=>n⟩
theorem Tryz.laysC174:Go.Proofs.LaysC.n174 Tryz.prog Tryz.laysC174_ren:={
 mixed:=by kernel_rfl
 f129:=Tryz.func206.trans (congrArg some (by kernel_rfl))
 f171:=Tryz.func198.trans (congrArg some (by kernel_rfl))
 f174:=Tryz.func130.trans (congrArg some (by kernel_rfl))
 f205:=Tryz.func197.trans (congrArg some (by kernel_rfl))
 f243:=Tryz.func199.trans (congrArg some (by kernel_rfl))
 f245:=Tryz.func168.trans (congrArg some (by kernel_rfl))
 f246:=Tryz.func200.trans (congrArg some (by kernel_rfl))
 f247:=Tryz.func167.trans (congrArg some (by kernel_rfl))
 f279:=Tryz.func187.trans (congrArg some (by kernel_rfl))
 f280:=Tryz.func188.trans (congrArg some (by kernel_rfl))
 f281:=Tryz.func189.trans (congrArg some (by kernel_rfl))
 f282:=Tryz.func190.trans (congrArg some (by kernel_rfl))
 f283:=Tryz.func201.trans (congrArg some (by kernel_rfl))
 f284:=Tryz.func202.trans (congrArg some (by kernel_rfl))
 f285:=Tryz.func203.trans (congrArg some (by kernel_rfl))
 f286:=Tryz.func204.trans (congrArg some (by kernel_rfl))
 f287:=Tryz.func186.trans (congrArg some (by kernel_rfl))
 f316:=Tryz.func196.trans (congrArg some (by kernel_rfl))
 f317:=Tryz.func205.trans (congrArg some (by kernel_rfl))
 f318:=Tryz.func207.trans (congrArg some (by kernel_rfl))
 f319:=Tryz.func208.trans (congrArg some (by kernel_rfl))
 f320:=Tryz.func209.trans (congrArg some (by kernel_rfl))
 f321:=Tryz.func194.trans (congrArg some (by kernel_rfl))
 f322:=Tryz.func195.trans (congrArg some (by kernel_rfl))
 f337:=Tryz.func210.trans (congrArg some (by kernel_rfl))
 f338:=Tryz.func211.trans (congrArg some (by kernel_rfl))
 t0:=Tryz.underlying0
 a0:=Tryz.isAgg0
 z0:=Tryz.sizeOf0
 v0:=Tryz.zeroValue0
 t2:=Tryz.underlying2
 a2:=Tryz.isAgg2
 z2:=Tryz.sizeOf2
 v2:=Tryz.zeroValue2
 t3:=Tryz.underlying3
 a3:=Tryz.isAgg3
 z3:=Tryz.sizeOf3
 v3:=Tryz.zeroValue3
 t4:=Tryz.underlying4
 a4:=Tryz.isAgg4
 z4:=Tryz.sizeOf4
 v4:=Tryz.zeroValue4
 t5:=Tryz.underlying5
 a5:=Tryz.isAgg5
 z5:=Tryz.sizeOf5
 v5:=Tryz.zeroValue5
 t9:=Tryz.underlying9
 a9:=Tryz.isAgg9
 z9:=Tryz.sizeOf9
 v9:=Tryz.zeroValue9
 t20:=Tryz.underlying20
 a20:=Tryz.isAgg20
 z20:=Tryz.sizeOf20
 v20:=Tryz.zeroValue20
 t21:=Tryz.underlying21
 a21:=Tryz.isAgg21
 z21:=Tryz.sizeOf21
 v21:=Tryz.zeroValue21
 t37:=Tryz.underlying314
 a37:=Tryz.isAgg314
 z37:=Tryz.sizeOf314
 v37:=Tryz.zeroValue314
 t46:=Tryz.underlying309
 a46:=Tryz.isAgg309
 z46:=Tryz.sizeOf309
 v46:=Tryz.zeroValue309
 t51:=Tryz.underlying332
 a51:=Tryz.isAgg332
 z51:=Tryz.sizeOf332
 v51:=Tryz.zeroValue332
 t53:=Tryz.underlying306
 a53:=Tryz.isAgg306
 z53:=Tryz.sizeOf306
 v53:=Tryz.zeroValue306
 t75:=Tryz.underlying262
 a75:=Tryz.isAgg262
 z75:=Tryz.sizeOf262
 v75:=Tryz.zeroValue262
 t85:=Tryz.underlying263
 a85:=Tryz.isAgg263
 z85:=Tryz.sizeOf263
 v85:=Tryz.zeroValue263
 t127:=Tryz.underlying320
 a127:=Tryz.isAgg320
 z127:=Tryz.sizeOf320
 v127:=Tryz.zeroValue320
 t143:=Tryz.underlying321
 a143:=Tryz.isAgg321
 z143:=Tryz.sizeOf321
 v143:=Tryz.zeroValue321
 t145:=Tryz.underlying323
 a145:=Tryz.isAgg323
 z145:=Tryz.sizeOf323
 v145:=Tryz.zeroValue323
 t167:=Tryz.underlying305
 a167:=Tryz.isAgg305
 z167:=Tryz.sizeOf305
 v167:=Tryz.zeroValue305
 t168:=Tryz.underlying310
 a168:=Tryz.isAgg310
 z168:=Tryz.sizeOf310
 v168:=Tryz.zeroValue310
 t171:=Tryz.underlying325
 a171:=Tryz.isAgg325
 z171:=Tryz.sizeOf325
 v171:=Tryz.zeroValue325
 t173:=Tryz.underlying328
 a173:=Tryz.isAgg328
 z173:=Tryz.sizeOf328
 v173:=Tryz.zeroValue328
 t175:=Tryz.underlying307
 a175:=Tryz.isAgg307
 z175:=Tryz.sizeOf307
 v175:=Tryz.zeroValue307
 t210:=Tryz.underlying316
 a210:=Tryz.isAgg316
 z210:=Tryz.sizeOf316
 v210:=Tryz.zeroValue316
 t212:=Tryz.underlying331
 a212:=Tryz.isAgg331
 z212:=Tryz.sizeOf331
 v212:=Tryz.zeroValue331
 t213:=Tryz.underlying333
 a213:=Tryz.isAgg333
 z213:=Tryz.sizeOf333
 t232:=Tryz.underlying337
 a232:=Tryz.isAgg337
 z232:=Tryz.sizeOf337
 v232:=Tryz.zeroValue337
 t233:=Tryz.underlying338
 a233:=Tryz.isAgg338
 z233:=Tryz.sizeOf338
 v233:=Tryz.zeroValue338
 g15:=by kernel_rfl
 g16:=by kernel_rfl
 g17:=by kernel_rfl
 g18:=by kernel_rfl
 g19:=by kernel_rfl
 t80:=Tryz.underlying269
 a80:=Tryz.isAgg269
 z80:=Tryz.sizeOf269
 v80:=Tryz.zeroValue269
 i0:=by kernel_rfl
 i2:=by kernel_rfl
 i3:=by kernel_rfl
 i4:=by kernel_rfl
 i5:=by kernel_rfl
 i9:=by kernel_rfl
 i20:=by kernel_rfl
 i21:=by kernel_rfl
 i37:=by kernel_rfl
 i46:=by kernel_rfl
 i51:=by kernel_rfl
 i53:=by kernel_rfl
 i75:=by kernel_rfl
 i80:=by kernel_rfl
 i85:=by kernel_rfl
 i127:=by kernel_rfl
 i143:=by kernel_rfl
 i145:=by kernel_rfl
 i167:=by kernel_rfl
 i168:=by kernel_rfl
 i171:=by kernel_rfl
 i173:=by kernel_rfl
 i175:=by kernel_rfl
 i210:=by kernel_rfl
 i212:=by kernel_rfl
 i232:=by kernel_rfl
 i233:=by kernel_rfl
 m15:=by kernel_rfl
 m16:=by kernel_rfl
 m17:=by kernel_rfl
 m18:=by kernel_rfl
 m19:=by kernel_rfl
 c0:=by kernel_rfl
 c2:=by kernel_rfl
 c3:=by kernel_rfl
 c4:=by kernel_rfl
 c5:=by kernel_rfl
 c9:=by kernel_rfl
 c20:=by kernel_rfl
 c21:=by kernel_rfl
 c37:=by kernel_rfl
 c46:=by kernel_rfl
 c51:=by kernel_rfl
 c53:=by kernel_rfl
 c75:=by kernel_rfl
 c80:=by kernel_rfl
 c85:=by kernel_rfl
 c127:=by kernel_rfl
 c143:=by kernel_rfl
 c145:=by kernel_rfl
 c167:=by kernel_rfl
 c168:=by kernel_rfl
 c171:=by kernel_rfl
 c173:=by kernel_rfl
 c175:=by kernel_rfl
 c210:=by kernel_rfl
 c212:=by kernel_rfl
 c213:=by kernel_rfl
 c232:=by kernel_rfl
 c233:=by kernel_rfl}
open Go.RowKit in
theorem Tryz.strconv_ParseInt_10_at64_ok (s:ByteArray) (a:s.size≤9223372036854775806) (v:Int) (h:Lib.parseIntB 64 s.data.toList = .ok v) (w:World) :
    Calls Tryz.prog 130 #[.string s,.int .i64 10,.int .i64 64] w λe w'=>e = .returned (.tuple #[.int .i64 v,.nilIface])∧(w'=w∨∃t,w'=Lib.bytesWorld w 5 t):=Any.strconv_ParseInt_10_at64_ok Tryz.laysC174 s a v h w
open Go.RowKit in
theorem Tryz.strconv_ParseInt_10_at64_syntax (s:ByteArray) (b:s.size≤281474976710656) (h:Lib.parseIntB 64 s.data.toList = .«syntax») (a:Value) (w:World) (g:w.cell? ⟨0,0,none⟩=some a) (c:a = .nilIface∨∃f d,a = .iface f d) :
    Calls Tryz.prog 130 #[.string s,.int .i64 10,.int .i64 64] w λe w'=>∃N,e = .returned (.tuple #[.int .i64 (0),.iface 310 (.pointer (some ⟨N,0,none⟩))])∧w.heap.size≤N∧w'.heap[N]?=some (.cells #[.string ⟨#[80,97,114,115,101,73,110,116]⟩,.string s,a] 316 (0,0))∧Below w.heap.size w w':=Any.strconv_ParseInt_10_at64_syntax Tryz.laysC174 s b h a w g c
open Go.RowKit in
theorem Tryz.strconv_ParseInt_10_at64_range (s:ByteArray) (b:s.size≤281474976710656) (h:Lib.parseIntB 64 s.data.toList = .range) (a:Value) (w:World) (g:w.cell? ⟨1,0,none⟩=some a) (c:a = .nilIface∨∃f d,a = .iface f d) :
    Calls Tryz.prog 130 #[.string s,.int .i64 10,.int .i64 64] w λe w'=>∃N,e = .returned (.tuple #[.int .i64 (Lib.intSat 64 s.data.toList),.iface 310 (.pointer (some ⟨N,0,none⟩))])∧w.heap.size≤N∧w'.heap[N]?=some (.cells #[.string ⟨#[80,97,114,115,101,73,110,116]⟩,.string s,a] 316 (0,0))∧Below w.heap.size w w':=Any.strconv_ParseInt_10_at64_range Tryz.laysC174 s b h a w g c
end Go.Proofs
