/- Part 4. -/
import Derived.Test.YtmahadmefplbnaaGreatDoorQFUA
import Derived.Shelf.Strings.Builder1
import Derived.Shelf.Small.Strs
import Derived.Shelf.Small.Wraps
import Derived.Shelf.Strings.BuilderF
import Derived.Shelf.Strings.BuilderK
import Derived.Shelf.Strconv.Atoi
import Derived.Shelf.Strconv.Itoa0
import Derived.Shelf.Strconv.Itoa1
import Derived.Shelf.LaysM
import Derived.Shelf.Strconv.Itoa2
import Derived.Shelf.Strconv.Itoa3
import Derived.Shelf.Strconv.AtoiErrFast
import Derived.Shelf.Strconv.ParseIntEmpty
import Derived.Shelf.Strconv.AtoiFail
import Derived.Shelf.Strconv.Clone
import Derived.Shelf.Strconv.SyntaxError
import Derived.Shelf.LaysC
import Derived.Shelf.Strconv.ToError
import Derived.Shelf.Strconv.AtoiErr
import Derived.Shelf.Strconv.ErrVar
import Derived.Shelf.Strconv.Lower
import Derived.Shelf.Strconv.ParseUint10
import Derived.Shelf.Strconv.ParseUint10Empty
import Derived.Shelf.Strconv.ParseUint10Any
import Derived.Shelf.Strconv.ParseInt10
import Derived.Shelf.Strconv.AtoiLong
import Derived.Shelf.Strconv.AtoiInnerAll
import Derived.Shelf.Strconv.RangeError
import Derived.Shelf.Strconv.ToErrorRange
import Derived.Shelf.Strconv.AtoiAll
import Derived.Shelf.Strconv.ErrVarAll
import Derived.Shelf.Strconv.ParseUintEmpty
import Derived.Shelf.Strconv.ParseUint10b64
import Derived.Shelf.Strconv.ParseUint10b32
import Derived.Shelf.Strconv.ParseUint10b16
import Derived.Shelf.Strconv.ParseUint10b8
import Derived.Shelf.Strconv.ParseUint10At
import Derived.Shelf.Strconv.ParseInt10At64
import Derived.Shelf.Strconv.ParseInt10At32
import Derived.Shelf.Strconv.ParseInt10At16
import Derived.Shelf.Strconv.ParseInt10At8
import Derived.Shelf.Strconv.ParseInt10All
import Derived.Ground.MpProg
import Derived.Shelf.Pu.ParseUintPublic10
import Derived.Shelf.Pu.ErrVarParseUint
import Derived.Shelf.Strings.Search1
import Derived.Shelf.Strings.Search2
import Derived.Shelf.Strings.Cut
import Derived.Shelf.Strings.Shaped
import Derived.Shelf.Strings.Prefix
import Derived.Shelf.Bits.Mul64
import Derived.Ground.Names2Prog
import Derived.Shelf.Slices.Clone
import Derived.Test.YtmahadmefplbnaaGreatDoorProg
set_option maxRecDepth 100000
set_option maxHeartbeats 2000000
namespace Go.Proofs
open Go.Shelf
def Tryz.lays169_ren:Go.Shelf.Ren:=⟨fun|169=>243|n=>n,fun|70=>273|9=>9|0=>0|72=>276|37=>274|127=>296|3=>3|5=>5|n=>n,fun|n=>n⟩
theorem Tryz.lays169:Go.Proofs.Lays.n169 Tryz.prog Tryz.lays169_ren:={
 mixed:=by kernel_rfl
 f169:=Tryz.func243.trans (congrArg some (by kernel_rfl))
 t0:=Tryz.underlying0
 a0:=Tryz.isAgg0
 z0:=Tryz.sizeOf0
 v0:=Tryz.zeroValue0
 t3:=Tryz.underlying3
 a3:=Tryz.isAgg3
 z3:=Tryz.sizeOf3
 v3:=Tryz.zeroValue3
 t9:=Tryz.underlying9
 a9:=Tryz.isAgg9
 z9:=Tryz.sizeOf9
 v9:=Tryz.zeroValue9
 t37:=Tryz.underlying274
 a37:=Tryz.isAgg274
 z37:=Tryz.sizeOf274
 v37:=Tryz.zeroValue274
 t70:=Tryz.underlying273
 a70:=Tryz.isAgg273
 z70:=Tryz.sizeOf273
 v70:=Tryz.zeroValue273
 t72:=Tryz.underlying276
 a72:=Tryz.isAgg276
 z72:=Tryz.sizeOf276
 v72:=Tryz.zeroValue276
 t127:=Tryz.underlying296
 a127:=Tryz.isAgg296
 z127:=Tryz.sizeOf296
 v127:=Tryz.zeroValue296 }
theorem Tryz.Builder_Extra_169:Builder.Extra Tryz.prog Tryz.lays169_ren:={
 sizeBuilder:=by kernel_rfl
 liesBuilder:=by kernel_rfl
 t5:=Tryz.underlying5
 a5:=Tryz.isAgg5
 z5:=Tryz.sizeOf5
 v5:=Tryz.zeroValue5
 infoByte:=by kernel_rfl
 cellsByte:=by kernel_rfl
 sizeByte:=by kernel_rfl
 neB5:=by decide }
def Tryz.lays213_ren:Go.Shelf.Ren:=⟨fun|213=>235|265=>266|n=>n,fun|9=>9|3=>3|n=>n,fun|n=>n⟩
def Tryz.lays106_ren:Go.Shelf.Ren:=⟨fun|106=>166|213=>235|265=>266|n=>n,fun|9=>9|3=>3|n=>n,fun|n=>n⟩
theorem Tryz.lays106:Go.Proofs.Lays.n106 Tryz.prog Tryz.lays106_ren:={
 mixed:=by kernel_rfl
 f106:=Tryz.func166.trans (congrArg some (by kernel_rfl))
 f213:=Tryz.func235.trans (congrArg some (by kernel_rfl))
 f265:=Tryz.func266.trans (congrArg some (by kernel_rfl))
 t3:=Tryz.underlying3
 a3:=Tryz.isAgg3
 z3:=Tryz.sizeOf3
 v3:=Tryz.zeroValue3
 t9:=Tryz.underlying9
 a9:=Tryz.isAgg9
 z9:=Tryz.sizeOf9
 v9:=Tryz.zeroValue9 }
open Go.RowKit in
theorem Tryz.strings_Compare (a b:ByteArray) (w:World) :
    Calls Tryz.prog 166 #[.string a,.string b] w fun e w'=>e = .returned (.int .i64 (Lib.compareBytes a.data.toList b.data.toList))/\w'=w:=Any.strings_Compare Tryz.lays106 a b w
def Tryz.lays137_ren:Go.Shelf.Ren:=⟨fun|137=>186|217=>247|266=>274|n=>n,fun|9=>9|5=>5|3=>3|n=>n,fun|n=>n⟩
theorem Tryz.lays137:Go.Proofs.Lays.n137 Tryz.prog Tryz.lays137_ren:={
 mixed:=by kernel_rfl
 f137:=Tryz.func186.trans (congrArg some (by kernel_rfl))
 f217:=Tryz.func247.trans (congrArg some (by kernel_rfl))
 f266:=Tryz.func274.trans (congrArg some (by kernel_rfl))
 t3:=Tryz.underlying3
 a3:=Tryz.isAgg3
 z3:=Tryz.sizeOf3
 v3:=Tryz.zeroValue3
 t5:=Tryz.underlying5
 a5:=Tryz.isAgg5
 z5:=Tryz.sizeOf5
 v5:=Tryz.zeroValue5
 t9:=Tryz.underlying9
 a9:=Tryz.isAgg9
 z9:=Tryz.sizeOf9
 v9:=Tryz.zeroValue9 }
open Go.RowKit in
theorem Tryz.strings_IndexByte (s:ByteArray) (c:Int) (w:World) :
    Calls Tryz.prog 186 #[.string s,.int .u8 c] w fun e w'=>e = .returned (.int .i64 (Lib.indexByte s.data.toList c.toNat.toUInt8))/\w'=w:=Any.strings_IndexByte Tryz.lays137 s c w
def Tryz.lays210_ren:Go.Shelf.Ren:=⟨fun|210=>253|206=>265|n=>n,fun|9=>9|4=>4|3=>3|n=>n,fun|n=>n⟩
def Tryz.lays103_ren:Go.Shelf.Ren:=⟨fun|103=>190|210=>253|206=>265|n=>n,fun|9=>9|4=>4|24=>230|3=>3|n=>n,fun|n=>n⟩
theorem Tryz.lays103:Go.Proofs.Lays.n103 Tryz.prog Tryz.lays103_ren:={
 mixed:=by kernel_rfl
 f103:=Tryz.func190.trans (congrArg some (by kernel_rfl))
 f206:=Tryz.func265.trans (congrArg some (by kernel_rfl))
 f210:=Tryz.func253.trans (congrArg some (by kernel_rfl))
 t3:=Tryz.underlying3
 a3:=Tryz.isAgg3
 z3:=Tryz.sizeOf3
 v3:=Tryz.zeroValue3
 t4:=Tryz.underlying4
 a4:=Tryz.isAgg4
 z4:=Tryz.sizeOf4
 v4:=Tryz.zeroValue4
 t9:=Tryz.underlying9
 a9:=Tryz.isAgg9
 z9:=Tryz.sizeOf9
 v9:=Tryz.zeroValue9
 t24:=Tryz.underlying230
 a24:=Tryz.isAgg230
 z24:=Tryz.sizeOf230
 v24:=Tryz.zeroValue230 }
open Go.RowKit in
theorem Tryz.strings_CutPrefix (s p:ByteArray) (w:World) :
    Calls Tryz.prog 190 #[.string s,.string p] w fun e w'=>e = .returned (.tuple #[.string ⟨(Lib.trimPrefix s.data.toList p.data.toList).toArray⟩,.bool (Lib.hasPrefix s.data.toList p.data.toList)])/\w'=w:=Any.strings_CutPrefix Tryz.lays103 s p w
open Go.RowKit in
theorem Tryz.Builder_String_any_k (B b:Nat) (l:List UInt8) (w:World) (h:Lib.IsBuilderF 276 5 B b (Lib.byteCells l) w) (hBw:B<=w.heap.size) :
    Calls Tryz.prog 243 #[.pointer (some ⟨b,0,none⟩)] w fun e w'=>e = .returned (.string ⟨l.toArray⟩)/\(Lib.IsBuilderF 276 5 B b (Lib.byteCells l) w'/\Below B w w'/\Lib.OthersKept 5 (some b) w w'):=Any.Builder_String_any_k Tryz.lays169 Tryz.Builder_Extra_169 B b l w h hBw
def Tryz.lays172_ren:Go.Shelf.Ren:=⟨fun|172=>236|244=>267|245=>268|247=>280|279=>281|280=>282|281=>283|282=>284|287=>269|316=>293|171=>193|205=>294|321=>285|322=>286|243=>256|246=>275|283=>288|284=>289|285=>290|286=>291|129=>296|317=>295|318=>297|319=>298|320=>299|337=>300|338=>301|n=>n,fun|9=>9|3=>3|75=>267|76=>268|4=>4|5=>5|167=>302|37=>274|0=>0|85=>303|2=>2|168=>305|53=>245|175=>270|46=>246|210=>320|127=>296|145=>328|143=>326|21=>21|171=>312|173=>315|212=>323|51=>234|20=>20|213=>324|232=>330|233=>331|80=>282|n=>n,fun|15=>1|16=>2|17=>3|18=>4|19=>5|n=>n⟩
theorem Tryz.lays172:Go.Proofs.Lays.n172 Tryz.prog Tryz.lays172_ren:={
 mixed:=by kernel_rfl
 f129:=Tryz.func296.trans (congrArg some (by kernel_rfl))
 f171:=Tryz.func193.trans (congrArg some (by kernel_rfl))
 f172:=Tryz.func236.trans (congrArg some (by kernel_rfl))
 f205:=Tryz.func294.trans (congrArg some (by kernel_rfl))
 f243:=Tryz.func256.trans (congrArg some (by kernel_rfl))
 f244:=Tryz.func267.trans (congrArg some (by kernel_rfl))
 f245:=Tryz.func268.trans (congrArg some (by kernel_rfl))
 f246:=Tryz.func275.trans (congrArg some (by kernel_rfl))
 f247:=Tryz.func280.trans (congrArg some (by kernel_rfl))
 f279:=Tryz.func281.trans (congrArg some (by kernel_rfl))
 f280:=Tryz.func282.trans (congrArg some (by kernel_rfl))
 f281:=Tryz.func283.trans (congrArg some (by kernel_rfl))
 f282:=Tryz.func284.trans (congrArg some (by kernel_rfl))
 f283:=Tryz.func288.trans (congrArg some (by kernel_rfl))
 f284:=Tryz.func289.trans (congrArg some (by kernel_rfl))
 f285:=Tryz.func290.trans (congrArg some (by kernel_rfl))
 f286:=Tryz.func291.trans (congrArg some (by kernel_rfl))
 f287:=Tryz.func269.trans (congrArg some (by kernel_rfl))
 f316:=Tryz.func293.trans (congrArg some (by kernel_rfl))
 f317:=Tryz.func295.trans (congrArg some (by kernel_rfl))
 f318:=Tryz.func297.trans (congrArg some (by kernel_rfl))
 f319:=Tryz.func298.trans (congrArg some (by kernel_rfl))
 f320:=Tryz.func299.trans (congrArg some (by kernel_rfl))
 f321:=Tryz.func285.trans (congrArg some (by kernel_rfl))
 f322:=Tryz.func286.trans (congrArg some (by kernel_rfl))
 f337:=Tryz.func300.trans (congrArg some (by kernel_rfl))
 f338:=Tryz.func301.trans (congrArg some (by kernel_rfl))
 t0:=Tryz.underlying0
 a0:=Tryz.isAgg0
 z0:=Tryz.sizeOf0
 v0:=Tryz.zeroValue0
 t2:=Tryz.underlying2
 a2:=Tryz.isAgg2
 z2:=Tryz.sizeOf2
 v2:=Tryz.zeroValue2
 t3:=Tryz.underlying3
 a3:=Tryz.isAgg3
 z3:=Tryz.sizeOf3
 v3:=Tryz.zeroValue3
 t4:=Tryz.underlying4
 a4:=Tryz.isAgg4
 z4:=Tryz.sizeOf4
 v4:=Tryz.zeroValue4
 t5:=Tryz.underlying5
 a5:=Tryz.isAgg5
 z5:=Tryz.sizeOf5
 v5:=Tryz.zeroValue5
 t9:=Tryz.underlying9
 a9:=Tryz.isAgg9
 z9:=Tryz.sizeOf9
 v9:=Tryz.zeroValue9
 t20:=Tryz.underlying20
 a20:=Tryz.isAgg20
 z20:=Tryz.sizeOf20
 v20:=Tryz.zeroValue20
 t21:=Tryz.underlying21
 a21:=Tryz.isAgg21
 z21:=Tryz.sizeOf21
 v21:=Tryz.zeroValue21
 t37:=Tryz.underlying274
 a37:=Tryz.isAgg274
 z37:=Tryz.sizeOf274
 v37:=Tryz.zeroValue274
 t46:=Tryz.underlying246
 a46:=Tryz.isAgg246
 z46:=Tryz.sizeOf246
 v46:=Tryz.zeroValue246
 t51:=Tryz.underlying234
 a51:=Tryz.isAgg234
 z51:=Tryz.sizeOf234
 v51:=Tryz.zeroValue234
 t53:=Tryz.underlying245
 a53:=Tryz.isAgg245
 z53:=Tryz.sizeOf245
 v53:=Tryz.zeroValue245
 t75:=Tryz.underlying267
 a75:=Tryz.isAgg267
 z75:=Tryz.sizeOf267
 v75:=Tryz.zeroValue267
 t76:=Tryz.underlying268
 a76:=Tryz.isAgg268
 z76:=Tryz.sizeOf268
 v76:=Tryz.zeroValue268
 t85:=Tryz.underlying303
 a85:=Tryz.isAgg303
 z85:=Tryz.sizeOf303
 v85:=Tryz.zeroValue303
 t127:=Tryz.underlying296
 a127:=Tryz.isAgg296
 z127:=Tryz.sizeOf296
 v127:=Tryz.zeroValue296
 t143:=Tryz.underlying326
 a143:=Tryz.isAgg326
 z143:=Tryz.sizeOf326
 v143:=Tryz.zeroValue326
 t145:=Tryz.underlying328
 a145:=Tryz.isAgg328
 z145:=Tryz.sizeOf328
 v145:=Tryz.zeroValue328
 t167:=Tryz.underlying302
 a167:=Tryz.isAgg302
 z167:=Tryz.sizeOf302
 v167:=Tryz.zeroValue302
 t168:=Tryz.underlying305
 a168:=Tryz.isAgg305
 z168:=Tryz.sizeOf305
 v168:=Tryz.zeroValue305
 t171:=Tryz.underlying312
 a171:=Tryz.isAgg312
 z171:=Tryz.sizeOf312
 v171:=Tryz.zeroValue312
 t173:=Tryz.underlying315
 a173:=Tryz.isAgg315
 z173:=Tryz.sizeOf315
 v173:=Tryz.zeroValue315
 t175:=Tryz.underlying270
 a175:=Tryz.isAgg270
 z175:=Tryz.sizeOf270
 v175:=Tryz.zeroValue270
 t210:=Tryz.underlying320
 a210:=Tryz.isAgg320
 z210:=Tryz.sizeOf320
 v210:=Tryz.zeroValue320
 t212:=Tryz.underlying323
 a212:=Tryz.isAgg323
 z212:=Tryz.sizeOf323
 v212:=Tryz.zeroValue323
 t213:=Tryz.underlying324
 a213:=Tryz.isAgg324
 z213:=Tryz.sizeOf324
 t232:=Tryz.underlying330
 a232:=Tryz.isAgg330
 z232:=Tryz.sizeOf330
 v232:=Tryz.zeroValue330
 t233:=Tryz.underlying331
 a233:=Tryz.isAgg331
 z233:=Tryz.sizeOf331
 v233:=Tryz.zeroValue331
 g15:=by kernel_rfl
 g16:=by kernel_rfl
 g17:=by kernel_rfl
 g18:=by kernel_rfl
 g19:=by kernel_rfl }
open Go.RowKit in
theorem Tryz.strconv_Atoi (s:ByteArray) (n:Int) (hl:s.size<=18) (h:Lib.atoi s.data.toList=some n) (w:World) :
    Calls Tryz.prog 236 #[.string s] w fun e w'=>e = .returned (.tuple #[.int .i64 n,.nilIface])/\∃ t,w'=Lib.bytesWorld w 5 t:=Any.strconv_Atoi Tryz.lays172 s n hl h w
def Tryz.lays283_ren:Go.Shelf.Ren:=⟨fun|283=>288|n=>n,fun|3=>3|9=>9|4=>4|n=>n,fun|n=>n⟩
theorem Tryz.lays283:Go.Proofs.Lays.n283 Tryz.prog Tryz.lays283_ren:={
 mixed:=by kernel_rfl
 f283:=Tryz.func288.trans (congrArg some (by kernel_rfl))
 t3:=Tryz.underlying3
 a3:=Tryz.isAgg3
 z3:=Tryz.sizeOf3
 v3:=Tryz.zeroValue3
 t4:=Tryz.underlying4
 a4:=Tryz.isAgg4
 z4:=Tryz.sizeOf4
 v4:=Tryz.zeroValue4
 t9:=Tryz.underlying9
 a9:=Tryz.isAgg9
 z9:=Tryz.sizeOf9
 v9:=Tryz.zeroValue9 }
open Go.Lib in
theorem Tryz.internal_strconv_small (i:Nat) (h:i<100) (w:World) :
    Calls Tryz.prog 288 #[.int .i64 i] w fun e w'=>e = .returned (.string ⟨(Lib.decDigits i).toArray⟩)/\w'=w:=Any.internal_strconv_small Tryz.lays283 i h w
def Tryz.laysM284_ren:Go.Shelf.Ren:=⟨fun|284=>289|129=>296|317=>295|318=>297|n=>n,fun|53=>245|3=>3|212=>323|0=>0|4=>4|46=>246|5=>5|9=>9|n=>n,fun|17=>3|n=>n⟩
theorem Tryz.laysM284:Go.Proofs.LaysM.n284 Tryz.prog Tryz.laysM284_ren:={
 mixed:=by kernel_rfl
 f129:=Tryz.func296.trans (congrArg some (by kernel_rfl))
 f284:=Tryz.func289.trans (congrArg some (by kernel_rfl))
 f317:=Tryz.func295.trans (congrArg some (by kernel_rfl))
 f318:=Tryz.func297.trans (congrArg some (by kernel_rfl))
 t0:=Tryz.underlying0
 a0:=Tryz.isAgg0
 z0:=Tryz.sizeOf0
 v0:=Tryz.zeroValue0
 t3:=Tryz.underlying3
 a3:=Tryz.isAgg3
 z3:=Tryz.sizeOf3
 v3:=Tryz.zeroValue3
 t4:=Tryz.underlying4
 a4:=Tryz.isAgg4
 z4:=Tryz.sizeOf4
 v4:=Tryz.zeroValue4
 t5:=Tryz.underlying5
 a5:=Tryz.isAgg5
 z5:=Tryz.sizeOf5
 v5:=Tryz.zeroValue5
 t9:=Tryz.underlying9
 a9:=Tryz.isAgg9
 z9:=Tryz.sizeOf9
 v9:=Tryz.zeroValue9
 t46:=Tryz.underlying246
 a46:=Tryz.isAgg246
 z46:=Tryz.sizeOf246
 v46:=Tryz.zeroValue246
 t53:=Tryz.underlying245
 a53:=Tryz.isAgg245
 z53:=Tryz.sizeOf245
 v53:=Tryz.zeroValue245
 t212:=Tryz.underlying323
 a212:=Tryz.isAgg323
 z212:=Tryz.sizeOf323
 v212:=Tryz.zeroValue323
 g17:=by kernel_rfl
 i0:=by kernel_rfl
 i3:=by kernel_rfl
 i4:=by kernel_rfl
 i5:=by kernel_rfl
 i9:=by kernel_rfl
 i46:=by kernel_rfl
 i53:=by kernel_rfl
 i212:=by kernel_rfl
 m17:=by kernel_rfl }
open Go.Lib in
theorem Tryz.internal_strconv_numDigits (u:Nat) (h1:1<=u) (h2:u<18446744073709551616) (w:World) (htab:Lib.TabIs Tryz.prog w "internal/strconv.uint64pow10" .u64 Lib.pow10Tab) :
    Calls Tryz.prog 289 #[.int .u64 u] w fun e w'=>e = .returned (.int .i64 (Lib.nDigits u))/\w'=w:=Any.internal_strconv_numDigits Tryz.laysM284 u h1 h2 w htab
def Tryz.lays285_ren:Go.Shelf.Ren:=⟨fun|285=>290|n=>n,fun|37=>274|53=>245|3=>3|4=>4|51=>234|9=>9|5=>5|0=>0|n=>n,fun|n=>n⟩
theorem Tryz.lays285:Go.Proofs.Lays.n285 Tryz.prog Tryz.lays285_ren:={
 mixed:=by kernel_rfl
 f285:=Tryz.func290.trans (congrArg some (by kernel_rfl))
 t0:=Tryz.underlying0
 a0:=Tryz.isAgg0
 z0:=Tryz.sizeOf0
 v0:=Tryz.zeroValue0
 t3:=Tryz.underlying3
 a3:=Tryz.isAgg3
 z3:=Tryz.sizeOf3
 v3:=Tryz.zeroValue3
 t4:=Tryz.underlying4
 a4:=Tryz.isAgg4
 z4:=Tryz.sizeOf4
 v4:=Tryz.zeroValue4
 t5:=Tryz.underlying5
 a5:=Tryz.isAgg5
 z5:=Tryz.sizeOf5
 v5:=Tryz.zeroValue5
 t9:=Tryz.underlying9
 a9:=Tryz.isAgg9
 z9:=Tryz.sizeOf9
 v9:=Tryz.zeroValue9
 t37:=Tryz.underlying274
 a37:=Tryz.isAgg274
 z37:=Tryz.sizeOf274
 v37:=Tryz.zeroValue274
 t51:=Tryz.underlying234
 a51:=Tryz.isAgg234
 z51:=Tryz.sizeOf234
 v51:=Tryz.zeroValue234
 t53:=Tryz.underlying245
 a53:=Tryz.isAgg245
 z53:=Tryz.sizeOf245
 v53:=Tryz.zeroValue245 }
open Go.RowKit Go.Sort Go.Lib in
theorem Tryz.internal_strconv_formatBase10 (ay off cap : Nat) (u : Nat) (d : Array UInt8) (w : World) (hH : Holds (fun (b : UInt8) => Value.int .u8 (b.toNat : Int)) w ay off d) (hu : u < 10 ^ d.size) (hu64 : u < 18446744073709551616) (hsz : d.size < 4611686018427387904) :
    Calls Tryz.prog 290 #[.slice (some ⟨ay,off,none⟩) d.size cap,.int .u64 u] w fun e w' =>
     e = .returned (.tuple #[])/\∃ (n v':Nat) (dk:Array UInt8),w'=(putRow (fun (b:UInt8)=>Value.int .u8 (b.toNat:Int)) w ay off dk).drewN n/\FmtInv d.size u 0 v' dk:=Any.internal_strconv_formatBase10 Tryz.lays285 ay off cap u d w hH hu hu64 hsz
def Tryz.laysM246_ren:Go.Shelf.Ren:=⟨fun|246=>275|283=>288|284=>289|285=>290|286=>291|129=>296|317=>295|318=>297|319=>298|320=>299|337=>300|338=>301|n=>n,fun|2=>2|3=>3|9=>9|4=>4|171=>312|0=>0|53=>245|37=>274|5=>5|173=>315|212=>323|51=>234|20=>20|213=>324|46=>246|232=>330|233=>331|n=>n,fun|17=>3|18=>4|19=>5|n=>n⟩
def Tryz.laysM243_ren:Go.Shelf.Ren:=⟨fun|243=>256|246=>275|283=>288|284=>289|285=>290|286=>291|129=>296|317=>295|318=>297|319=>298|320=>299|337=>300|338=>301|n=>n,fun|3=>3|9=>9|2=>2|4=>4|171=>312|0=>0|53=>245|37=>274|5=>5|173=>315|212=>323|51=>234|20=>20|213=>324|46=>246|232=>330|233=>331|n=>n,fun|17=>3|18=>4|19=>5|n=>n⟩
def Tryz.laysM171_ren:Go.Shelf.Ren:=⟨fun|171=>193|243=>256|246=>275|283=>288|284=>289|285=>290|286=>291|129=>296|317=>295|318=>297|319=>298|320=>299|337=>300|338=>301|n=>n,fun|3=>3|9=>9|2=>2|4=>4|171=>312|0=>0|53=>245|37=>274|5=>5|173=>315|212=>323|51=>234|20=>20|213=>324|46=>246|232=>330|233=>331|n=>n,fun|17=>3|18=>4|19=>5|n=>n⟩
theorem Tryz.laysM171:Go.Proofs.LaysM.n171 Tryz.prog Tryz.laysM171_ren:={
 mixed:=by kernel_rfl
 f129:=Tryz.func296.trans (congrArg some (by kernel_rfl))
 f171:=Tryz.func193.trans (congrArg some (by kernel_rfl))
 f243:=Tryz.func256.trans (congrArg some (by kernel_rfl))
 f246:=Tryz.func275.trans (congrArg some (by kernel_rfl))
 f283:=Tryz.func288.trans (congrArg some (by kernel_rfl))
 f284:=Tryz.func289.trans (congrArg some (by kernel_rfl))
 f285:=Tryz.func290.trans (congrArg some (by kernel_rfl))
 f286:=Tryz.func291.trans (congrArg some (by kernel_rfl))
 f317:=Tryz.func295.trans (congrArg some (by kernel_rfl))
 f318:=Tryz.func297.trans (congrArg some (by kernel_rfl))
 f319:=Tryz.func298.trans (congrArg some (by kernel_rfl))
 f320:=Tryz.func299.trans (congrArg some (by kernel_rfl))
 f337:=Tryz.func300.trans (congrArg some (by kernel_rfl))
 f338:=Tryz.func301.trans (congrArg some (by kernel_rfl))
 t0:=Tryz.underlying0
 a0:=Tryz.isAgg0
 z0:=Tryz.sizeOf0
 v0:=Tryz.zeroValue0
 t2:=Tryz.underlying2
 a2:=Tryz.isAgg2
 z2:=Tryz.sizeOf2
 v2:=Tryz.zeroValue2
 t3:=Tryz.underlying3
 a3:=Tryz.isAgg3
 z3:=Tryz.sizeOf3
 v3:=Tryz.zeroValue3
 t4:=Tryz.underlying4
 a4:=Tryz.isAgg4
 z4:=Tryz.sizeOf4
 v4:=Tryz.zeroValue4
 t5:=Tryz.underlying5
 a5:=Tryz.isAgg5
 z5:=Tryz.sizeOf5
 v5:=Tryz.zeroValue5
 t9:=Tryz.underlying9
 a9:=Tryz.isAgg9
 z9:=Tryz.sizeOf9
 v9:=Tryz.zeroValue9
 t20:=Tryz.underlying20
 a20:=Tryz.isAgg20
 z20:=Tryz.sizeOf20
 v20:=Tryz.zeroValue20
 t37:=Tryz.underlying274
 a37:=Tryz.isAgg274
 z37:=Tryz.sizeOf274
 v37:=Tryz.zeroValue274
 t46:=Tryz.underlying246
 a46:=Tryz.isAgg246
 z46:=Tryz.sizeOf246
 v46:=Tryz.zeroValue246
 t51:=Tryz.underlying234
 a51:=Tryz.isAgg234
 z51:=Tryz.sizeOf234
 v51:=Tryz.zeroValue234
 t53:=Tryz.underlying245
 a53:=Tryz.isAgg245
 z53:=Tryz.sizeOf245
 v53:=Tryz.zeroValue245
 t171:=Tryz.underlying312
 a171:=Tryz.isAgg312
 z171:=Tryz.sizeOf312
 v171:=Tryz.zeroValue312
 t173:=Tryz.underlying315
 a173:=Tryz.isAgg315
 z173:=Tryz.sizeOf315
 v173:=Tryz.zeroValue315
 t212:=Tryz.underlying323
 a212:=Tryz.isAgg323
 z212:=Tryz.sizeOf323
 v212:=Tryz.zeroValue323
 t213:=Tryz.underlying324
 a213:=Tryz.isAgg324
 z213:=Tryz.sizeOf324
 t232:=Tryz.underlying330
 a232:=Tryz.isAgg330
 z232:=Tryz.sizeOf330
 v232:=Tryz.zeroValue330
 t233:=Tryz.underlying331
 a233:=Tryz.isAgg331
 z233:=Tryz.sizeOf331
 v233:=Tryz.zeroValue331
 g17:=by kernel_rfl
 g18:=by kernel_rfl
 g19:=by kernel_rfl
 i0:=by kernel_rfl
 i2:=by kernel_rfl
 i3:=by kernel_rfl
 i4:=by kernel_rfl
 i5:=by kernel_rfl
 i9:=by kernel_rfl
 i20:=by kernel_rfl
 i37:=by kernel_rfl
 i46:=by kernel_rfl
 i51:=by kernel_rfl
 i53:=by kernel_rfl
 i171:=by kernel_rfl
 i173:=by kernel_rfl
 i212:=by kernel_rfl
 i232:=by kernel_rfl
 i233:=by kernel_rfl
 m17:=by kernel_rfl
 m18:=by kernel_rfl
 m19:=by kernel_rfl }
open Go.RowKit Go.Sort Go.Lib in
theorem Tryz.strconv_Itoa (n:Int) (h0:-9223372036854775808<=n) (h1:n<=9223372036854775807) (w:World) (htab:Lib.TabIs Tryz.prog w "internal/strconv.uint64pow10" .u64 Lib.pow10Tab) :
    Calls Tryz.prog 193 #[.int .i64 n] w fun e w'=>e = .returned (.string ⟨(Lib.itoa n).toArray⟩)/\∃ k os,w'=grow (w.drewN k) os:=Any.strconv_Itoa Tryz.laysM171 n h0 h1 w htab
def Tryz.laysPu14_ren:Go.Shelf.Ren:=⟨fun|14=>237|16=>269|17=>268|19=>285|20=>286|21=>281|22=>282|23=>283|24=>284|25=>293|27=>193|26=>294|28=>256|29=>275|30=>288|31=>289|32=>290|33=>291|35=>296|34=>295|36=>297|37=>298|38=>299|39=>300|40=>301|n=>n,fun|9=>9|3=>3|22=>245|24=>267|25=>270|4=>4|34=>302|5=>5|36=>246|37=>274|0=>0|39=>305|21=>21|44=>320|47=>296|50=>328|48=>326|2=>2|52=>312|55=>315|59=>323|60=>234|20=>20|61=>324|65=>330|66=>331|67=>282|n=>n,fun|0=>1|1=>2|2=>3|3=>4|4=>5|n=>n⟩
theorem Tryz.laysPu14:Go.Proofs.LaysPu.n14 Tryz.prog Tryz.laysPu14_ren:={
 mixed:=by kernel_rfl
 f14:=Tryz.func237.trans (congrArg some (by kernel_rfl))
 f16:=Tryz.func269.trans (congrArg some (by kernel_rfl))
 f17:=Tryz.func268.trans (congrArg some (by kernel_rfl))
 f19:=Tryz.func285.trans (congrArg some (by kernel_rfl))
 f20:=Tryz.func286.trans (congrArg some (by kernel_rfl))
 f21:=Tryz.func281.trans (congrArg some (by kernel_rfl))
 f22:=Tryz.func282.trans (congrArg some (by kernel_rfl))
 f23:=Tryz.func283.trans (congrArg some (by kernel_rfl))
 f24:=Tryz.func284.trans (congrArg some (by kernel_rfl))
 f25:=Tryz.func293.trans (congrArg some (by kernel_rfl))
 f26:=Tryz.func294.trans (congrArg some (by kernel_rfl))
 f27:=Tryz.func193.trans (congrArg some (by kernel_rfl))
 f28:=Tryz.func256.trans (congrArg some (by kernel_rfl))
 f29:=Tryz.func275.trans (congrArg some (by kernel_rfl))
 f30:=Tryz.func288.trans (congrArg some (by kernel_rfl))
 f31:=Tryz.func289.trans (congrArg some (by kernel_rfl))
 f32:=Tryz.func290.trans (congrArg some (by kernel_rfl))
 f33:=Tryz.func291.trans (congrArg some (by kernel_rfl))
 f34:=Tryz.func295.trans (congrArg some (by kernel_rfl))
 f35:=Tryz.func296.trans (congrArg some (by kernel_rfl))
 f36:=Tryz.func297.trans (congrArg some (by kernel_rfl))
 f37:=Tryz.func298.trans (congrArg some (by kernel_rfl))
 f38:=Tryz.func299.trans (congrArg some (by kernel_rfl))
 f39:=Tryz.func300.trans (congrArg some (by kernel_rfl))
 f40:=Tryz.func301.trans (congrArg some (by kernel_rfl))
 t0:=Tryz.underlying0
 a0:=Tryz.isAgg0
 z0:=Tryz.sizeOf0
 v0:=Tryz.zeroValue0
 i0:=by kernel_rfl
 t2:=Tryz.underlying2
 a2:=Tryz.isAgg2
 z2:=Tryz.sizeOf2
 v2:=Tryz.zeroValue2
 i2:=by kernel_rfl
 t3:=Tryz.underlying3
 a3:=Tryz.isAgg3
 z3:=Tryz.sizeOf3
 v3:=Tryz.zeroValue3
 i3:=by kernel_rfl
 t4:=Tryz.underlying4
 a4:=Tryz.isAgg4
 z4:=Tryz.sizeOf4
 v4:=Tryz.zeroValue4
 i4:=by kernel_rfl
 t5:=Tryz.underlying5
 a5:=Tryz.isAgg5
 z5:=Tryz.sizeOf5
 v5:=Tryz.zeroValue5
 i5:=by kernel_rfl
 t9:=Tryz.underlying9
 a9:=Tryz.isAgg9
 z9:=Tryz.sizeOf9
 v9:=Tryz.zeroValue9
 i9:=by kernel_rfl
 t20:=Tryz.underlying20
 a20:=Tryz.isAgg20
 z20:=Tryz.sizeOf20
 v20:=Tryz.zeroValue20
 i20:=by kernel_rfl
 t21:=Tryz.underlying21
 a21:=Tryz.isAgg21
 z21:=Tryz.sizeOf21
 v21:=Tryz.zeroValue21
 i21:=by kernel_rfl
 t22:=Tryz.underlying245
 a22:=Tryz.isAgg245
 z22:=Tryz.sizeOf245
 v22:=Tryz.zeroValue245
 i22:=by kernel_rfl
 t24:=Tryz.underlying267
 a24:=Tryz.isAgg267
 z24:=Tryz.sizeOf267
 v24:=Tryz.zeroValue267
 i24:=by kernel_rfl
 t25:=Tryz.underlying270
 a25:=Tryz.isAgg270
 z25:=Tryz.sizeOf270
 v25:=Tryz.zeroValue270
 i25:=by kernel_rfl
 t34:=Tryz.underlying302
 a34:=Tryz.isAgg302
 z34:=Tryz.sizeOf302
 v34:=Tryz.zeroValue302
 i34:=by kernel_rfl
 c34:=by kernel_rfl
 t36:=Tryz.underlying246
 a36:=Tryz.isAgg246
 z36:=Tryz.sizeOf246
 v36:=Tryz.zeroValue246
 i36:=by kernel_rfl
 t37:=Tryz.underlying274
 a37:=Tryz.isAgg274
 z37:=Tryz.sizeOf274
 v37:=Tryz.zeroValue274
 i37:=by kernel_rfl
 t39:=Tryz.underlying305
 a39:=Tryz.isAgg305
 z39:=Tryz.sizeOf305
 v39:=Tryz.zeroValue305
 i39:=by kernel_rfl
 t44:=Tryz.underlying320
 a44:=Tryz.isAgg320
 z44:=Tryz.sizeOf320
 v44:=Tryz.zeroValue320
 i44:=by kernel_rfl
 t47:=Tryz.underlying296
 a47:=Tryz.isAgg296
 z47:=Tryz.sizeOf296
 v47:=Tryz.zeroValue296
 i47:=by kernel_rfl
 t48:=Tryz.underlying326
 a48:=Tryz.isAgg326
 z48:=Tryz.sizeOf326
 v48:=Tryz.zeroValue326
 i48:=by kernel_rfl
 t50:=Tryz.underlying328
 a50:=Tryz.isAgg328
 z50:=Tryz.sizeOf328
 v50:=Tryz.zeroValue328
 i50:=by kernel_rfl
 t52:=Tryz.underlying312
 a52:=Tryz.isAgg312
 z52:=Tryz.sizeOf312
 v52:=Tryz.zeroValue312
 i52:=by kernel_rfl
 t55:=Tryz.underlying315
 a55:=Tryz.isAgg315
 z55:=Tryz.sizeOf315
 v55:=Tryz.zeroValue315
 i55:=by kernel_rfl
 t59:=Tryz.underlying323
 a59:=Tryz.isAgg323
 z59:=Tryz.sizeOf323
 v59:=Tryz.zeroValue323
 i59:=by kernel_rfl
 t60:=Tryz.underlying234
 a60:=Tryz.isAgg234
 z60:=Tryz.sizeOf234
 v60:=Tryz.zeroValue234
 i60:=by kernel_rfl
 t61:=Tryz.underlying324
 a61:=Tryz.isAgg324
 z61:=Tryz.sizeOf324
 t65:=Tryz.underlying330
 a65:=Tryz.isAgg330
 z65:=Tryz.sizeOf330
 v65:=Tryz.zeroValue330
 i65:=by kernel_rfl
 t66:=Tryz.underlying331
 a66:=Tryz.isAgg331
 z66:=Tryz.sizeOf331
 v66:=Tryz.zeroValue331
 i66:=by kernel_rfl
 t67:=Tryz.underlying282
 a67:=Tryz.isAgg282
 z67:=Tryz.sizeOf282
 v67:=Tryz.zeroValue282
 i67:=by kernel_rfl
 g0:=by kernel_rfl
 m0:=by kernel_rfl
 g1:=by kernel_rfl
 m1:=by kernel_rfl
 g2:=by kernel_rfl
 m2:=by kernel_rfl
 g3:=by kernel_rfl
 m3:=by kernel_rfl
 g4:=by kernel_rfl
 m4:=by kernel_rfl }
open Go.RowKit in
theorem Tryz.strconv_ParseUint_10_at64_ok (s:ByteArray) (hmax:s.size<=9223372036854775806) (u:Nat) (h:Lib.parseUintB 64 s.data.toList = .ok u) (w:World) :
    Calls Tryz.prog 237 #[.string s,.int .i64 10,.int .i64 64] w fun e w'=>e = .returned (.tuple #[.int .u64 u,.nilIface])/\(w'=w∨w'=Lib.bytesWorld w 5 s):=Any.strconv_ParseUint_10_at64_ok Tryz.laysPu14 s hmax u h w
def Tryz.lays219_ren:Go.Shelf.Ren:=⟨fun|219=>264|217=>247|225=>277|224=>278|267=>279|266=>274|314=>292|n=>n,fun|9=>9|3=>3|4=>4|5=>5|46=>246|146=>248|51=>234|n=>n,fun|1=>0|n=>n⟩
theorem Tryz.lays219:Go.Proofs.Lays.n219 Tryz.prog Tryz.lays219_ren:={
 mixed:=by kernel_rfl
 f217:=Tryz.func247.trans (congrArg some (by kernel_rfl))
 f219:=Tryz.func264.trans (congrArg some (by kernel_rfl))
 f224:=Tryz.func278.trans (congrArg some (by kernel_rfl))
 f225:=Tryz.func277.trans (congrArg some (by kernel_rfl))
 f266:=Tryz.func274.trans (congrArg some (by kernel_rfl))
 f267:=Tryz.func279.trans (congrArg some (by kernel_rfl))
 f314:=Tryz.func292.trans (congrArg some (by kernel_rfl))
 t3:=Tryz.underlying3
 a3:=Tryz.isAgg3
 z3:=Tryz.sizeOf3
 v3:=Tryz.zeroValue3
 t4:=Tryz.underlying4
 a4:=Tryz.isAgg4
 z4:=Tryz.sizeOf4
 v4:=Tryz.zeroValue4
 t5:=Tryz.underlying5
 a5:=Tryz.isAgg5
 z5:=Tryz.sizeOf5
 v5:=Tryz.zeroValue5
 t9:=Tryz.underlying9
 a9:=Tryz.isAgg9
 z9:=Tryz.sizeOf9
 v9:=Tryz.zeroValue9
 t46:=Tryz.underlying246
 a46:=Tryz.isAgg246
 z46:=Tryz.sizeOf246
 v46:=Tryz.zeroValue246
 t51:=Tryz.underlying234
 a51:=Tryz.isAgg234
 z51:=Tryz.sizeOf234
 v51:=Tryz.zeroValue234
 t146:=Tryz.underlying248
 a146:=Tryz.isAgg248
 z146:=Tryz.sizeOf248
 v146:=Tryz.zeroValue248
 g1:=by kernel_rfl }
open Go.RowKit Go.Lib in
theorem Tryz.stringslite_Index_one (s:ByteArray) (c:UInt8) (w:World) :
    Calls Tryz.prog 264 #[.string s,.string ⟨#[c]⟩] w fun e w'=>e = .returned (.int .i64 (Lib.indexByte s.data.toList c))/\w'=w:=Any.stringslite_Index_one Tryz.lays219 s c w
def Tryz.lays145_ren:Go.Shelf.Ren:=⟨fun|145=>163|220=>232|219=>264|217=>247|225=>277|224=>278|267=>279|266=>274|314=>292|n=>n,fun|9=>9|4=>4|59=>209|3=>3|5=>5|46=>246|146=>248|51=>234|n=>n,fun|1=>0|n=>n⟩
theorem Tryz.lays145:Go.Proofs.Lays.n145 Tryz.prog Tryz.lays145_ren:={
 mixed:=by kernel_rfl
 f145:=Tryz.func163.trans (congrArg some (by kernel_rfl))
 f217:=Tryz.func247.trans (congrArg some (by kernel_rfl))
 f219:=Tryz.func264.trans (congrArg some (by kernel_rfl))
 f220:=Tryz.func232.trans (congrArg some (by kernel_rfl))
 f224:=Tryz.func278.trans (congrArg some (by kernel_rfl))
 f225:=Tryz.func277.trans (congrArg some (by kernel_rfl))
 f266:=Tryz.func274.trans (congrArg some (by kernel_rfl))
 f267:=Tryz.func279.trans (congrArg some (by kernel_rfl))
 f314:=Tryz.func292.trans (congrArg some (by kernel_rfl))
 t3:=Tryz.underlying3
 a3:=Tryz.isAgg3
 z3:=Tryz.sizeOf3
 v3:=Tryz.zeroValue3
 t4:=Tryz.underlying4
 a4:=Tryz.isAgg4
 z4:=Tryz.sizeOf4
 v4:=Tryz.zeroValue4
 t5:=Tryz.underlying5
 a5:=Tryz.isAgg5
 z5:=Tryz.sizeOf5
 v5:=Tryz.zeroValue5
 t9:=Tryz.underlying9
 a9:=Tryz.isAgg9
 z9:=Tryz.sizeOf9
 v9:=Tryz.zeroValue9
 t46:=Tryz.underlying246
 a46:=Tryz.isAgg246
 z46:=Tryz.sizeOf246
 v46:=Tryz.zeroValue246
 t51:=Tryz.underlying234
 a51:=Tryz.isAgg234
 z51:=Tryz.sizeOf234
 v51:=Tryz.zeroValue234
 t59:=Tryz.underlying209
 a59:=Tryz.isAgg209
 z59:=Tryz.sizeOf209
 v59:=Tryz.zeroValue209
 t146:=Tryz.underlying248
 a146:=Tryz.isAgg248
 z146:=Tryz.sizeOf248
 v146:=Tryz.zeroValue248
 g1:=by kernel_rfl }
open Go.RowKit Go.Lib in
theorem Tryz.strings_Cut (s sep:ByteArray) (m:Int) (w:World) (hs:s.size<4294967281) (hm:w.cell? ⟨0,0,none⟩=some (.int .i64 m)) :
    Calls Tryz.prog 163 #[.string s,.string sep] w fun e w'=>e = .returned (.tuple #[.string ⟨(Lib.cut s.data.toList sep.data.toList).1.toArray⟩,.string ⟨(Lib.cut s.data.toList sep.data.toList).2.1.toArray⟩,.bool (Lib.cut s.data.toList sep.data.toList).2.2])/\∃ n,w'=w.drewN n:=Any.strings_Cut Tryz.lays145 s sep m w hs hm
def Tryz.lays99_ren:Go.Shelf.Ren:=⟨fun|99=>233|206=>265|n=>n,fun|9=>9|4=>4|3=>3|n=>n,fun|n=>n⟩
theorem Tryz.lays99:Go.Proofs.Lays.n99 Tryz.prog Tryz.lays99_ren:={
 mixed:=by kernel_rfl
 f99:=Tryz.func233.trans (congrArg some (by kernel_rfl))
 f206:=Tryz.func265.trans (congrArg some (by kernel_rfl))
 t3:=Tryz.underlying3
 a3:=Tryz.isAgg3
 z3:=Tryz.sizeOf3
 v3:=Tryz.zeroValue3
 t4:=Tryz.underlying4
 a4:=Tryz.isAgg4
 z4:=Tryz.sizeOf4
 v4:=Tryz.zeroValue4
 t9:=Tryz.underlying9
 a9:=Tryz.isAgg9
 z9:=Tryz.sizeOf9
 v9:=Tryz.zeroValue9 }
open Go.RowKit Go.Lib in
theorem Tryz.strings_HasPrefix (s p:ByteArray) (w:World) :
    Calls Tryz.prog 233 #[.string s,.string p] w fun e w'=>e = .returned (.bool (Lib.hasPrefix s.data.toList p.data.toList))/\w'=w:=Any.strings_HasPrefix Tryz.lays99 s p w
def Tryz.lays101_ren:Go.Shelf.Ren:=⟨fun|101=>165|208=>234|206=>265|n=>n,fun|9=>9|4=>4|3=>3|n=>n,fun|n=>n⟩
theorem Tryz.lays101:Go.Proofs.Lays.n101 Tryz.prog Tryz.lays101_ren:={
 mixed:=by kernel_rfl
 f101:=Tryz.func165.trans (congrArg some (by kernel_rfl))
 f206:=Tryz.func265.trans (congrArg some (by kernel_rfl))
 f208:=Tryz.func234.trans (congrArg some (by kernel_rfl))
 t3:=Tryz.underlying3
 a3:=Tryz.isAgg3
 z3:=Tryz.sizeOf3
 v3:=Tryz.zeroValue3
 t4:=Tryz.underlying4
 a4:=Tryz.isAgg4
 z4:=Tryz.sizeOf4
 v4:=Tryz.zeroValue4
 t9:=Tryz.underlying9
 a9:=Tryz.isAgg9
 z9:=Tryz.sizeOf9
 v9:=Tryz.zeroValue9 }
open Go.RowKit Go.Lib in
theorem Tryz.strings_TrimPrefix (s p:ByteArray) (w:World) :
    Calls Tryz.prog 165 #[.string s,.string p] w fun e w'=>e = .returned (.string ⟨(Lib.trimPrefix s.data.toList p.data.toList).toArray⟩)/\w'=w:=Any.strings_TrimPrefix Tryz.lays101 s p w
def Tryz.lays212_ren:Go.Shelf.Ren:=⟨fun|212=>214|263=>258|264=>259|n=>n,fun|46=>246|51=>234|146=>248|53=>245|148=>289|n=>n,fun|n=>n⟩
theorem Tryz.lays212:Go.Proofs.Lays.n212 Tryz.prog Tryz.lays212_ren:={
 mixed:=by kernel_rfl
 f212:=Tryz.func214.trans (congrArg some (by kernel_rfl))
 f263:=Tryz.func258.trans (congrArg some (by kernel_rfl))
 f264:=Tryz.func259.trans (congrArg some (by kernel_rfl))
 t46:=Tryz.underlying246
 a46:=Tryz.isAgg246
 z46:=Tryz.sizeOf246
 v46:=Tryz.zeroValue246
 t51:=Tryz.underlying234
 a51:=Tryz.isAgg234
 z51:=Tryz.sizeOf234
 v51:=Tryz.zeroValue234
 t53:=Tryz.underlying245
 a53:=Tryz.isAgg245
 z53:=Tryz.sizeOf245
 v53:=Tryz.zeroValue245
 t146:=Tryz.underlying248
 a146:=Tryz.isAgg248
 z146:=Tryz.sizeOf248
 v146:=Tryz.zeroValue248
 t148:=Tryz.underlying289
 a148:=Tryz.isAgg289
 z148:=Tryz.sizeOf289
 v148:=Tryz.zeroValue289 }
open Go.RowKit Go.Lib in
theorem Tryz.bits_Mul (x y:Nat) (hx:x<18446744073709551616) (hy:y<18446744073709551616) (w:World) :
    Calls Tryz.prog 214 #[.int .u64 x,.int .u64 y] w fun e w'=>e = .returned (.tuple #[.int .u64 ((x*y / 18446744073709551616:Nat):Int),.int .u64 ((x*y % 18446744073709551616:Nat):Int)])/\w'=w:=Any.bits_Mul Tryz.lays212 x y hx hy w
def Tryz.laysNm215_ren:Go.Shelf.Ren:=⟨fun|15=>195|n=>n,fun|22=>85|3=>3|4=>4|n=>n,fun|n=>n⟩
theorem Tryz.laysNm215:Go.Proofs.Lays2.n15 Tryz.prog Tryz.laysNm215_ren:={
 mixed:=by kernel_rfl
 f15:=Tryz.func195.trans (congrArg some (by kernel_rfl))
 t3:=Tryz.underlying3
 a3:=Tryz.isAgg3
 z3:=Tryz.sizeOf3
 v3:=Tryz.zeroValue3
 t4:=Tryz.underlying4
 a4:=Tryz.isAgg4
 z4:=Tryz.sizeOf4
 v4:=Tryz.zeroValue4
 t22:=Tryz.underlying85
 a22:=Tryz.isAgg85
 z22:=Tryz.sizeOf85
 v22:=Tryz.zeroValue85
 i3:=by kernel_rfl }
open Go.RowKit Go.Lib in
theorem Tryz.slices_Clone_int (b off n c:Nat) (zs:List Int) (w:World) (hz:n<=zs.length) (hbig:n*8<=140737488355328) (hc:∀ j,j<zs.length->w.cell? ⟨b,off+j,none⟩=some (.int .i64 (zs.getD j 0))) :
    Calls Tryz.prog 195 #[.slice (some ⟨b,off,none⟩) n c] w fun e w'=>∃ v',e = .returned v'/\w'.ownsRow w.heap.size 3 1 v' n ((zs.take n).map (Value.int .i64))/\v' ≠ .slice none 0 0/\Below w.heap.size w w':=Any.slices_Clone_int Tryz.laysNm215 b off n c zs w hz hbig hc
open Go.RowKit Go.Lib in
theorem Tryz.slices_Clone_int_nil (n c:Nat) (w:World) :
    Calls Tryz.prog 195 #[.slice none n c] w fun e w'=>e = .returned (.slice none 0 0)/\w'=w:=Any.slices_Clone_int_nil Tryz.laysNm215 n c w
open Go.RowKit Go.Lib in
theorem Tryz.slices_Clone_int_zero (a:Addr) (c:Nat) (w:World) :
    Calls Tryz.prog 195 #[.slice (some a) 0 c] w fun e w'=>∃ v',e = .returned v'/\w'.ownsRow w.heap.size 3 1 v' 0 []/\v' ≠ .slice none 0 0/\Below w.heap.size w w':=Any.slices_Clone_int_zero Tryz.laysNm215 a c w
end Go.Proofs
