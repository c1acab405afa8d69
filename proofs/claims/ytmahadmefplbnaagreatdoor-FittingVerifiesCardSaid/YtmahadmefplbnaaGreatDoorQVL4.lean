/- Part 4. -/
import Derived.Test.YtmahadmefplbnaaGreatDoorQVLB
import Derived.Shelf.Strings.Builder1
import Derived.Shelf.Small.Strs
import Derived.Shelf.Small.Wraps
import Derived.Shelf.Strings.BuilderF
import Derived.Shelf.Strings.BuilderK
import Derived.Shelf.Strconv.Atoi
import Derived.Shelf.Strconv.Itoa0
import Derived.Shelf.Strconv.Itoa1
import Derived.Shelf.LaysM
import Derived.Shelf.Strconv.Itoa2
import Derived.Shelf.Strconv.Itoa3
import Derived.Shelf.Strconv.AtoiErrFast
import Derived.Shelf.Strconv.ParseIntEmpty
import Derived.Shelf.Strconv.AtoiFail
import Derived.Shelf.Strconv.Clone
import Derived.Shelf.Strconv.SyntaxError
import Derived.Shelf.LaysC
import Derived.Shelf.Strconv.ToError
import Derived.Shelf.Strconv.AtoiErr
import Derived.Shelf.Strconv.ErrVar
import Derived.Shelf.Strconv.Lower
import Derived.Shelf.Strconv.ParseUint10
import Derived.Shelf.Strconv.ParseUint10Empty
import Derived.Shelf.Strconv.ParseUint10Any
import Derived.Shelf.Strconv.ParseInt10
import Derived.Shelf.Strconv.AtoiLong
import Derived.Shelf.Strconv.AtoiInnerAll
import Derived.Shelf.Strconv.RangeError
import Derived.Shelf.Strconv.ToErrorRange
import Derived.Shelf.Strconv.AtoiAll
import Derived.Shelf.Strconv.ErrVarAll
import Derived.Shelf.Strconv.ParseUintEmpty
import Derived.Shelf.Strconv.ParseUint10b64
import Derived.Shelf.Strconv.ParseUint10b32
import Derived.Shelf.Strconv.ParseUint10b16
import Derived.Shelf.Strconv.ParseUint10b8
import Derived.Shelf.Strconv.ParseUint10At
import Derived.Shelf.Strconv.ParseInt10At64
import Derived.Shelf.Strconv.ParseInt10At32
import Derived.Shelf.Strconv.ParseInt10At16
import Derived.Shelf.Strconv.ParseInt10At8
import Derived.Shelf.Strconv.ParseInt10All
import Derived.Ground.MpProg
import Derived.Shelf.Pu.ParseUintPublic10
import Derived.Shelf.Pu.ErrVarParseUint
import Derived.Shelf.Strings.Search1
import Derived.Shelf.Strings.Search2
import Derived.Shelf.Strings.Cut
import Derived.Shelf.Strings.Shaped
import Derived.Shelf.Strings.Prefix
import Derived.Shelf.Bits.Mul64
import Derived.Ground.Names2Prog
import Derived.Shelf.Slices.Clone
import Derived.Test.YtmahadmefplbnaaGreatDoorProg
set_option maxRecDepth 100000
set_option maxHeartbeats 2000000
open Go.Proofs.Tryz
namespace Go.Proofs
open Go.Shelf
def lays169_ren:Go.Shelf.Ren:=⟨fun|169=>243|n=>n,fun|70=>273|9=>9|0=>0|72=>276|37=>274|127=>296|3=>3|5=>5|n=>n,fun|n=>n⟩
theorem lays169:Go.Proofs.Lays.n169 prog lays169_ren:={
 mixed:=ag
 f169:=func243.trans ak
 t0:=underlying0
 a0:=isAgg0
 z0:=sizeOf0
 v0:=zeroValue0
 t3:=underlying3
 a3:=isAgg3
 z3:=sizeOf3
 v3:=zeroValue3
 t9:=underlying9
 a9:=isAgg9
 z9:=sizeOf9
 v9:=zeroValue9
 t37:=underlying274
 a37:=isAgg274
 z37:=sizeOf274
 v37:=zeroValue274
 t70:=underlying273
 a70:=isAgg273
 z70:=sizeOf273
 v70:=zeroValue273
 t72:=underlying276
 a72:=isAgg276
 z72:=sizeOf276
 v72:=zeroValue276
 t127:=underlying296
 a127:=isAgg296
 z127:=sizeOf296
 v127:=zeroValue296 }
theorem Builder_Extra_169:Builder.Extra prog lays169_ren:={
 sizeBuilder:=ag
 liesBuilder:=ag
 t5:=underlying5
 a5:=isAgg5
 z5:=sizeOf5
 v5:=zeroValue5
 infoByte:=ag
 cellsByte:=ag
 sizeByte:=ag
 neB5:=by decide }
def lays213_ren:Go.Shelf.Ren:=⟨fun|213=>235|265=>266|n=>n,fun|9=>9|3=>3|n=>n,fun|n=>n⟩
def lays106_ren:Go.Shelf.Ren:=⟨fun|106=>166|213=>235|265=>266|n=>n,fun|9=>9|3=>3|n=>n,fun|n=>n⟩
theorem lays106:Go.Proofs.Lays.n106 prog lays106_ren:={
 mixed:=ag
 f106:=func166.trans ak
 f213:=func235.trans ak
 f265:=func266.trans ak
 t3:=underlying3
 a3:=isAgg3
 z3:=sizeOf3
 v3:=zeroValue3
 t9:=underlying9
 a9:=isAgg9
 z9:=sizeOf9
 v9:=zeroValue9 }
open Go.RowKit in
theorem strings_Compare (a b:ByteArray) (w:World) :
    Calls prog 166 #[.string a,.string b] w fun e w'=>e = .returned (.int .i64 (Lib.compareBytes a.data.toList b.data.toList))/\w'=w:=Any.strings_Compare lays106 a b w
def lays137_ren:Go.Shelf.Ren:=⟨fun|137=>186|217=>247|266=>274|n=>n,fun|9=>9|5=>5|3=>3|n=>n,fun|n=>n⟩
theorem lays137:Go.Proofs.Lays.n137 prog lays137_ren:={
 mixed:=ag
 f137:=func186.trans ak
 f217:=func247.trans ak
 f266:=func274.trans ak
 t3:=underlying3
 a3:=isAgg3
 z3:=sizeOf3
 v3:=zeroValue3
 t5:=underlying5
 a5:=isAgg5
 z5:=sizeOf5
 v5:=zeroValue5
 t9:=underlying9
 a9:=isAgg9
 z9:=sizeOf9
 v9:=zeroValue9 }
open Go.RowKit in
theorem strings_IndexByte (s:ByteArray) (c:Int) (w:World) :
    Calls prog 186 #[.string s,.int .u8 c] w fun e w'=>e = .returned (.int .i64 (Lib.indexByte s.data.toList c.toNat.toUInt8))/\w'=w:=Any.strings_IndexByte lays137 s c w
def lays210_ren:Go.Shelf.Ren:=⟨fun|210=>253|206=>265|n=>n,fun|9=>9|4=>4|3=>3|n=>n,fun|n=>n⟩
def lays103_ren:Go.Shelf.Ren:=⟨fun|103=>190|210=>253|206=>265|n=>n,fun|9=>9|4=>4|24=>230|3=>3|n=>n,fun|n=>n⟩
theorem lays103:Go.Proofs.Lays.n103 prog lays103_ren:={
 mixed:=ag
 f103:=func190.trans ak
 f206:=func265.trans ak
 f210:=func253.trans ak
 t3:=underlying3
 a3:=isAgg3
 z3:=sizeOf3
 v3:=zeroValue3
 t4:=underlying4
 a4:=isAgg4
 z4:=sizeOf4
 v4:=zeroValue4
 t9:=underlying9
 a9:=isAgg9
 z9:=sizeOf9
 v9:=zeroValue9
 t24:=underlying230
 a24:=isAgg230
 z24:=sizeOf230
 v24:=zeroValue230 }
open Go.RowKit in
theorem strings_CutPrefix (s p:ByteArray) (w:World) :
    Calls prog 190 #[.string s,.string p] w fun e w'=>e = .returned (.tuple #[.string ⟨(Lib.trimPrefix s.data.toList p.data.toList).toArray⟩,.bool (Lib.hasPrefix s.data.toList p.data.toList)])/\w'=w:=Any.strings_CutPrefix lays103 s p w
open Go.RowKit in
theorem Builder_String_any_k (B b:Nat) (l:List UInt8) (w:World) (h:Lib.IsBuilderF 276 5 B b (Lib.byteCells l) w) (hBw:B<=w.heap.size) :
    Calls prog 243 #[.pointer (some ⟨b,0,none⟩)] w fun e w'=>e = .returned (.string ⟨l.toArray⟩)/\(Lib.IsBuilderF 276 5 B b (Lib.byteCells l) w'/\Below B w w'/\Lib.OthersKept 5 (some b) w w'):=Any.Builder_String_any_k lays169 Builder_Extra_169 B b l w h hBw
def lays172_ren:Go.Shelf.Ren:=⟨fun|172=>236|244=>267|245=>268|247=>280|279=>281|280=>282|281=>283|282=>284|287=>269|316=>293|171=>193|205=>294|321=>285|322=>286|243=>256|246=>275|283=>288|284=>289|285=>290|286=>291|129=>296|317=>295|318=>297|319=>298|320=>299|337=>300|338=>301|n=>n,fun|9=>9|3=>3|75=>267|76=>268|4=>4|5=>5|167=>302|37=>274|0=>0|85=>303|2=>2|168=>305|53=>245|175=>270|46=>246|210=>320|127=>296|145=>328|143=>326|21=>21|171=>312|173=>315|212=>323|51=>234|20=>20|213=>324|232=>330|233=>331|80=>282|n=>n,fun|15=>1|16=>2|17=>3|18=>4|19=>5|n=>n⟩
theorem lays172:Go.Proofs.Lays.n172 prog lays172_ren:={
 mixed:=ag
 f129:=func296.trans ak
 f171:=func193.trans ak
 f172:=func236.trans ak
 f205:=func294.trans ak
 f243:=func256.trans ak
 f244:=func267.trans ak
 f245:=func268.trans ak
 f246:=func275.trans ak
 f247:=func280.trans ak
 f279:=func281.trans ak
 f280:=func282.trans ak
 f281:=func283.trans ak
 f282:=func284.trans ak
 f283:=func288.trans ak
 f284:=func289.trans ak
 f285:=func290.trans ak
 f286:=func291.trans ak
 f287:=func269.trans ak
 f316:=func293.trans ak
 f317:=func295.trans ak
 f318:=func297.trans ak
 f319:=func298.trans ak
 f320:=func299.trans ak
 f321:=func285.trans ak
 f322:=func286.trans ak
 f337:=func300.trans ak
 f338:=func301.trans ak
 t0:=underlying0
 a0:=isAgg0
 z0:=sizeOf0
 v0:=zeroValue0
 t2:=underlying2
 a2:=isAgg2
 z2:=sizeOf2
 v2:=zeroValue2
 t3:=underlying3
 a3:=isAgg3
 z3:=sizeOf3
 v3:=zeroValue3
 t4:=underlying4
 a4:=isAgg4
 z4:=sizeOf4
 v4:=zeroValue4
 t5:=underlying5
 a5:=isAgg5
 z5:=sizeOf5
 v5:=zeroValue5
 t9:=underlying9
 a9:=isAgg9
 z9:=sizeOf9
 v9:=zeroValue9
 t20:=underlying20
 a20:=isAgg20
 z20:=sizeOf20
 v20:=zeroValue20
 t21:=underlying21
 a21:=isAgg21
 z21:=sizeOf21
 v21:=zeroValue21
 t37:=underlying274
 a37:=isAgg274
 z37:=sizeOf274
 v37:=zeroValue274
 t46:=underlying246
 a46:=isAgg246
 z46:=sizeOf246
 v46:=zeroValue246
 t51:=underlying234
 a51:=isAgg234
 z51:=sizeOf234
 v51:=zeroValue234
 t53:=underlying245
 a53:=isAgg245
 z53:=sizeOf245
 v53:=zeroValue245
 t75:=underlying267
 a75:=isAgg267
 z75:=sizeOf267
 v75:=zeroValue267
 t76:=underlying268
 a76:=isAgg268
 z76:=sizeOf268
 v76:=zeroValue268
 t85:=underlying303
 a85:=isAgg303
 z85:=sizeOf303
 v85:=zeroValue303
 t127:=underlying296
 a127:=isAgg296
 z127:=sizeOf296
 v127:=zeroValue296
 t143:=underlying326
 a143:=isAgg326
 z143:=sizeOf326
 v143:=zeroValue326
 t145:=underlying328
 a145:=isAgg328
 z145:=sizeOf328
 v145:=zeroValue328
 t167:=underlying302
 a167:=isAgg302
 z167:=sizeOf302
 v167:=zeroValue302
 t168:=underlying305
 a168:=isAgg305
 z168:=sizeOf305
 v168:=zeroValue305
 t171:=underlying312
 a171:=isAgg312
 z171:=sizeOf312
 v171:=zeroValue312
 t173:=underlying315
 a173:=isAgg315
 z173:=sizeOf315
 v173:=zeroValue315
 t175:=underlying270
 a175:=isAgg270
 z175:=sizeOf270
 v175:=zeroValue270
 t210:=underlying320
 a210:=isAgg320
 z210:=sizeOf320
 v210:=zeroValue320
 t212:=underlying323
 a212:=isAgg323
 z212:=sizeOf323
 v212:=zeroValue323
 t213:=underlying324
 a213:=isAgg324
 z213:=sizeOf324
 t232:=underlying330
 a232:=isAgg330
 z232:=sizeOf330
 v232:=zeroValue330
 t233:=underlying331
 a233:=isAgg331
 z233:=sizeOf331
 v233:=zeroValue331
 g15:=ag
 g16:=ag
 g17:=ag
 g18:=ag
 g19:=by kernel_rfl }
open Go.RowKit in
theorem strconv_Atoi (s:ByteArray) (n:Int) (hl:s.size<=18) (h:Lib.atoi s.data.toList=some n) (w:World) :
    Calls prog 236 #[.string s] w fun e w'=>e = .returned (.tuple #[.int .i64 n,.nilIface])/\∃ t,w'=Lib.bytesWorld w 5 t:=Any.strconv_Atoi lays172 s n hl h w
def lays283_ren:Go.Shelf.Ren:=⟨fun|283=>288|n=>n,fun|3=>3|9=>9|4=>4|n=>n,fun|n=>n⟩
theorem lays283:Go.Proofs.Lays.n283 prog lays283_ren:={
 mixed:=ag
 f283:=func288.trans ak
 t3:=underlying3
 a3:=isAgg3
 z3:=sizeOf3
 v3:=zeroValue3
 t4:=underlying4
 a4:=isAgg4
 z4:=sizeOf4
 v4:=zeroValue4
 t9:=underlying9
 a9:=isAgg9
 z9:=sizeOf9
 v9:=zeroValue9 }
open Go.Lib in
theorem internal_strconv_small (i:Nat) (h:i<100) (w:World) :
    Calls prog 288 #[.int .i64 i] w fun e w'=>e = .returned (.string ⟨(Lib.decDigits i).toArray⟩)/\w'=w:=Any.internal_strconv_small lays283 i h w
def laysM284_ren:Go.Shelf.Ren:=⟨fun|284=>289|129=>296|317=>295|318=>297|n=>n,fun|53=>245|3=>3|212=>323|0=>0|4=>4|46=>246|5=>5|9=>9|n=>n,fun|17=>3|n=>n⟩
theorem laysM284:Go.Proofs.LaysM.n284 prog laysM284_ren:={
 mixed:=ag
 f129:=func296.trans ak
 f284:=func289.trans ak
 f317:=func295.trans ak
 f318:=func297.trans ak
 t0:=underlying0
 a0:=isAgg0
 z0:=sizeOf0
 v0:=zeroValue0
 t3:=underlying3
 a3:=isAgg3
 z3:=sizeOf3
 v3:=zeroValue3
 t4:=underlying4
 a4:=isAgg4
 z4:=sizeOf4
 v4:=zeroValue4
 t5:=underlying5
 a5:=isAgg5
 z5:=sizeOf5
 v5:=zeroValue5
 t9:=underlying9
 a9:=isAgg9
 z9:=sizeOf9
 v9:=zeroValue9
 t46:=underlying246
 a46:=isAgg246
 z46:=sizeOf246
 v46:=zeroValue246
 t53:=underlying245
 a53:=isAgg245
 z53:=sizeOf245
 v53:=zeroValue245
 t212:=underlying323
 a212:=isAgg323
 z212:=sizeOf323
 v212:=zeroValue323
 g17:=ag
 i0:=ag
 i3:=ag
 i4:=ag
 i5:=ag
 i9:=ag
 i46:=ag
 i53:=ag
 i212:=ag
 m17:=by kernel_rfl }
open Go.Lib in
theorem internal_strconv_numDigits (u:Nat) (h1:1<=u) (h2:u<18446744073709551616) (w:World) (htab:Lib.TabIs prog w "internal/strconv.uint64pow10" .u64 Lib.pow10Tab) :
    Calls prog 289 #[.int .u64 u] w fun e w'=>e = .returned (.int .i64 (Lib.nDigits u))/\w'=w:=Any.internal_strconv_numDigits laysM284 u h1 h2 w htab
def lays285_ren:Go.Shelf.Ren:=⟨fun|285=>290|n=>n,fun|37=>274|53=>245|3=>3|4=>4|51=>234|9=>9|5=>5|0=>0|n=>n,fun|n=>n⟩
theorem lays285:Go.Proofs.Lays.n285 prog lays285_ren:={
 mixed:=ag
 f285:=func290.trans ak
 t0:=underlying0
 a0:=isAgg0
 z0:=sizeOf0
 v0:=zeroValue0
 t3:=underlying3
 a3:=isAgg3
 z3:=sizeOf3
 v3:=zeroValue3
 t4:=underlying4
 a4:=isAgg4
 z4:=sizeOf4
 v4:=zeroValue4
 t5:=underlying5
 a5:=isAgg5
 z5:=sizeOf5
 v5:=zeroValue5
 t9:=underlying9
 a9:=isAgg9
 z9:=sizeOf9
 v9:=zeroValue9
 t37:=underlying274
 a37:=isAgg274
 z37:=sizeOf274
 v37:=zeroValue274
 t51:=underlying234
 a51:=isAgg234
 z51:=sizeOf234
 v51:=zeroValue234
 t53:=underlying245
 a53:=isAgg245
 z53:=sizeOf245
 v53:=zeroValue245 }
open Go.RowKit Go.Sort Go.Lib in
theorem internal_strconv_formatBase10 (aH off cap : Nat) (u : Nat) (d : Array UInt8) (w : World) (hH : Holds (fun (b : UInt8) => Value.int .u8 (b.toNat : Int)) w aH off d) (hu : u < 10 ^ d.size) (Oc : u < 18446744073709551616) (gh : d.size < 4611686018427387904) :
    Calls prog 290 #[.slice (some ⟨aH,off,none⟩) d.size cap,.int .u64 u] w fun e w' =>
     e = .returned (.tuple #[])/\∃ (n v':Nat) (dk:Array UInt8),w'=(putRow (fun(b:UInt8)=>Value.int .u8 (b.toNat:Int)) w aH off dk).drewN n/\FmtInv d.size u 0 v' dk:=Any.internal_strconv_formatBase10 lays285 aH off cap u d w hH hu Oc gh
def laysM246_ren:Go.Shelf.Ren:=⟨fun|246=>275|283=>288|284=>289|285=>290|286=>291|129=>296|317=>295|318=>297|319=>298|320=>299|337=>300|338=>301|n=>n,fun|2=>2|3=>3|9=>9|4=>4|171=>312|0=>0|53=>245|37=>274|5=>5|173=>315|212=>323|51=>234|20=>20|213=>324|46=>246|232=>330|233=>331|n=>n,fun|17=>3|18=>4|19=>5|n=>n⟩
def laysM243_ren:Go.Shelf.Ren:=⟨fun|243=>256|246=>275|283=>288|284=>289|285=>290|286=>291|129=>296|317=>295|318=>297|319=>298|320=>299|337=>300|338=>301|n=>n,fun|3=>3|9=>9|2=>2|4=>4|171=>312|0=>0|53=>245|37=>274|5=>5|173=>315|212=>323|51=>234|20=>20|213=>324|46=>246|232=>330|233=>331|n=>n,fun|17=>3|18=>4|19=>5|n=>n⟩
def laysM171_ren:Go.Shelf.Ren:=⟨fun|171=>193|243=>256|246=>275|283=>288|284=>289|285=>290|286=>291|129=>296|317=>295|318=>297|319=>298|320=>299|337=>300|338=>301|n=>n,fun|3=>3|9=>9|2=>2|4=>4|171=>312|0=>0|53=>245|37=>274|5=>5|173=>315|212=>323|51=>234|20=>20|213=>324|46=>246|232=>330|233=>331|n=>n,fun|17=>3|18=>4|19=>5|n=>n⟩
theorem laysM171:Go.Proofs.LaysM.n171 prog laysM171_ren:={
 mixed:=ag
 f129:=func296.trans ak
 f171:=func193.trans ak
 f243:=func256.trans ak
 f246:=func275.trans ak
 f283:=func288.trans ak
 f284:=func289.trans ak
 f285:=func290.trans ak
 f286:=func291.trans ak
 f317:=func295.trans ak
 f318:=func297.trans ak
 f319:=func298.trans ak
 f320:=func299.trans ak
 f337:=func300.trans ak
 f338:=func301.trans ak
 t0:=underlying0
 a0:=isAgg0
 z0:=sizeOf0
 v0:=zeroValue0
 t2:=underlying2
 a2:=isAgg2
 z2:=sizeOf2
 v2:=zeroValue2
 t3:=underlying3
 a3:=isAgg3
 z3:=sizeOf3
 v3:=zeroValue3
 t4:=underlying4
 a4:=isAgg4
 z4:=sizeOf4
 v4:=zeroValue4
 t5:=underlying5
 a5:=isAgg5
 z5:=sizeOf5
 v5:=zeroValue5
 t9:=underlying9
 a9:=isAgg9
 z9:=sizeOf9
 v9:=zeroValue9
 t20:=underlying20
 a20:=isAgg20
 z20:=sizeOf20
 v20:=zeroValue20
 t37:=underlying274
 a37:=isAgg274
 z37:=sizeOf274
 v37:=zeroValue274
 t46:=underlying246
 a46:=isAgg246
 z46:=sizeOf246
 v46:=zeroValue246
 t51:=underlying234
 a51:=isAgg234
 z51:=sizeOf234
 v51:=zeroValue234
 t53:=underlying245
 a53:=isAgg245
 z53:=sizeOf245
 v53:=zeroValue245
 t171:=underlying312
 a171:=isAgg312
 z171:=sizeOf312
 v171:=zeroValue312
 t173:=underlying315
 a173:=isAgg315
 z173:=sizeOf315
 v173:=zeroValue315
 t212:=underlying323
 a212:=isAgg323
 z212:=sizeOf323
 v212:=zeroValue323
 t213:=underlying324
 a213:=isAgg324
 z213:=sizeOf324
 t232:=underlying330
 a232:=isAgg330
 z232:=sizeOf330
 v232:=zeroValue330
 t233:=underlying331
 a233:=isAgg331
 z233:=sizeOf331
 v233:=zeroValue331
 g17:=ag
 g18:=ag
 g19:=ag
 i0:=ag
 i2:=ag
 i3:=ag
 i4:=ag
 i5:=ag
 i9:=ag
 i20:=ag
 i37:=ag
 i46:=ag
 i51:=ag
 i53:=ag
 i171:=ag
 i173:=ag
 i212:=ag
 i232:=ag
 i233:=ag
 m17:=ag
 m18:=ag
 m19:=by kernel_rfl }
open Go.RowKit Go.Sort Go.Lib in
theorem strconv_Itoa (n:Int) (h0:-9223372036854775808<=n) (h1:n<=9223372036854775807) (w:World) (htab:Lib.TabIs prog w "internal/strconv.uint64pow10" .u64 Lib.pow10Tab) :
    Calls prog 193 #[.int .i64 n] w fun e w'=>e = .returned (.string ⟨(Lib.itoa n).toArray⟩)/\∃ k os,w'=grow (w.drewN k) os:=Any.strconv_Itoa laysM171 n h0 h1 w htab
def laysPu14_ren:Go.Shelf.Ren:=⟨fun|14=>237|16=>269|17=>268|19=>285|20=>286|21=>281|22=>282|23=>283|24=>284|25=>293|27=>193|26=>294|28=>256|29=>275|30=>288|31=>289|32=>290|33=>291|35=>296|34=>295|36=>297|37=>298|38=>299|39=>300|40=>301|n=>n,fun|9=>9|3=>3|22=>245|24=>267|25=>270|4=>4|34=>302|5=>5|36=>246|37=>274|0=>0|39=>305|21=>21|44=>320|47=>296|50=>328|48=>326|2=>2|52=>312|55=>315|59=>323|60=>234|20=>20|61=>324|65=>330|66=>331|67=>282|n=>n,fun|0=>1|1=>2|2=>3|3=>4|4=>5|n=>n⟩
theorem laysPu14:Go.Proofs.LaysPu.n14 prog laysPu14_ren:={
 mixed:=ag
 f14:=func237.trans ak
 f16:=func269.trans ak
 f17:=func268.trans ak
 f19:=func285.trans ak
 f20:=func286.trans ak
 f21:=func281.trans ak
 f22:=func282.trans ak
 f23:=func283.trans ak
 f24:=func284.trans ak
 f25:=func293.trans ak
 f26:=func294.trans ak
 f27:=func193.trans ak
 f28:=func256.trans ak
 f29:=func275.trans ak
 f30:=func288.trans ak
 f31:=func289.trans ak
 f32:=func290.trans ak
 f33:=func291.trans ak
 f34:=func295.trans ak
 f35:=func296.trans ak
 f36:=func297.trans ak
 f37:=func298.trans ak
 f38:=func299.trans ak
 f39:=func300.trans ak
 f40:=func301.trans ak
 t0:=underlying0
 a0:=isAgg0
 z0:=sizeOf0
 v0:=zeroValue0
 i0:=ag
 t2:=underlying2
 a2:=isAgg2
 z2:=sizeOf2
 v2:=zeroValue2
 i2:=ag
 t3:=underlying3
 a3:=isAgg3
 z3:=sizeOf3
 v3:=zeroValue3
 i3:=ag
 t4:=underlying4
 a4:=isAgg4
 z4:=sizeOf4
 v4:=zeroValue4
 i4:=ag
 t5:=underlying5
 a5:=isAgg5
 z5:=sizeOf5
 v5:=zeroValue5
 i5:=ag
 t9:=underlying9
 a9:=isAgg9
 z9:=sizeOf9
 v9:=zeroValue9
 i9:=ag
 t20:=underlying20
 a20:=isAgg20
 z20:=sizeOf20
 v20:=zeroValue20
 i20:=ag
 t21:=underlying21
 a21:=isAgg21
 z21:=sizeOf21
 v21:=zeroValue21
 i21:=ag
 t22:=underlying245
 a22:=isAgg245
 z22:=sizeOf245
 v22:=zeroValue245
 i22:=ag
 t24:=underlying267
 a24:=isAgg267
 z24:=sizeOf267
 v24:=zeroValue267
 i24:=ag
 t25:=underlying270
 a25:=isAgg270
 z25:=sizeOf270
 v25:=zeroValue270
 i25:=ag
 t34:=underlying302
 a34:=isAgg302
 z34:=sizeOf302
 v34:=zeroValue302
 i34:=ag
 c34:=ag
 t36:=underlying246
 a36:=isAgg246
 z36:=sizeOf246
 v36:=zeroValue246
 i36:=ag
 t37:=underlying274
 a37:=isAgg274
 z37:=sizeOf274
 v37:=zeroValue274
 i37:=ag
 t39:=underlying305
 a39:=isAgg305
 z39:=sizeOf305
 v39:=zeroValue305
 i39:=ag
 t44:=underlying320
 a44:=isAgg320
 z44:=sizeOf320
 v44:=zeroValue320
 i44:=ag
 t47:=underlying296
 a47:=isAgg296
 z47:=sizeOf296
 v47:=zeroValue296
 i47:=ag
 t48:=underlying326
 a48:=isAgg326
 z48:=sizeOf326
 v48:=zeroValue326
 i48:=ag
 t50:=underlying328
 a50:=isAgg328
 z50:=sizeOf328
 v50:=zeroValue328
 i50:=ag
 t52:=underlying312
 a52:=isAgg312
 z52:=sizeOf312
 v52:=zeroValue312
 i52:=ag
 t55:=underlying315
 a55:=isAgg315
 z55:=sizeOf315
 v55:=zeroValue315
 i55:=ag
 t59:=underlying323
 a59:=isAgg323
 z59:=sizeOf323
 v59:=zeroValue323
 i59:=ag
 t60:=underlying234
 a60:=isAgg234
 z60:=sizeOf234
 v60:=zeroValue234
 i60:=ag
 t61:=underlying324
 a61:=isAgg324
 z61:=sizeOf324
 t65:=underlying330
 a65:=isAgg330
 z65:=sizeOf330
 v65:=zeroValue330
 i65:=ag
 t66:=underlying331
 a66:=isAgg331
 z66:=sizeOf331
 v66:=zeroValue331
 i66:=ag
 t67:=underlying282
 a67:=isAgg282
 z67:=sizeOf282
 v67:=zeroValue282
 i67:=ag
 g0:=ag
 m0:=ag
 g1:=ag
 m1:=ag
 g2:=ag
 m2:=ag
 g3:=ag
 m3:=ag
 g4:=ag
 m4:=by kernel_rfl }
open Go.RowKit in
theorem strconv_ParseUint_10_at64_ok (s:ByteArray) (nh:s.size<=9223372036854775806) (u:Nat) (h:Lib.parseUintB 64 s.data.toList = .ok u) (w:World) :
    Calls prog 237 #[.string s,.int .i64 10,.int .i64 64] w fun e w'=>e = .returned (.tuple #[.int .u64 u,.nilIface])/\(w'=w∨w'=Lib.bytesWorld w 5 s):=Any.strconv_ParseUint_10_at64_ok laysPu14 s nh u h w
def lays219_ren:Go.Shelf.Ren:=⟨fun|219=>264|217=>247|225=>277|224=>278|267=>279|266=>274|314=>292|n=>n,fun|9=>9|3=>3|4=>4|5=>5|46=>246|146=>248|51=>234|n=>n,fun|1=>0|n=>n⟩
theorem lays219:Go.Proofs.Lays.n219 prog lays219_ren:={
 mixed:=ag
 f217:=func247.trans ak
 f219:=func264.trans ak
 f224:=func278.trans ak
 f225:=func277.trans ak
 f266:=func274.trans ak
 f267:=func279.trans ak
 f314:=func292.trans ak
 t3:=underlying3
 a3:=isAgg3
 z3:=sizeOf3
 v3:=zeroValue3
 t4:=underlying4
 a4:=isAgg4
 z4:=sizeOf4
 v4:=zeroValue4
 t5:=underlying5
 a5:=isAgg5
 z5:=sizeOf5
 v5:=zeroValue5
 t9:=underlying9
 a9:=isAgg9
 z9:=sizeOf9
 v9:=zeroValue9
 t46:=underlying246
 a46:=isAgg246
 z46:=sizeOf246
 v46:=zeroValue246
 t51:=underlying234
 a51:=isAgg234
 z51:=sizeOf234
 v51:=zeroValue234
 t146:=underlying248
 a146:=isAgg248
 z146:=sizeOf248
 v146:=zeroValue248
 g1:=by kernel_rfl }
open Go.RowKit Go.Lib in
theorem stringslite_Index_one (s:ByteArray) (c:UInt8) (w:World) :
    Calls prog 264 #[.string s,.string ⟨#[c]⟩] w fun e w'=>e = .returned (.int .i64 (Lib.indexByte s.data.toList c))/\w'=w:=Any.stringslite_Index_one lays219 s c w
def lays145_ren:Go.Shelf.Ren:=⟨fun|145=>163|220=>232|219=>264|217=>247|225=>277|224=>278|267=>279|266=>274|314=>292|n=>n,fun|9=>9|4=>4|59=>209|3=>3|5=>5|46=>246|146=>248|51=>234|n=>n,fun|1=>0|n=>n⟩
theorem lays145:Go.Proofs.Lays.n145 prog lays145_ren:={
 mixed:=ag
 f145:=func163.trans ak
 f217:=func247.trans ak
 f219:=func264.trans ak
 f220:=func232.trans ak
 f224:=func278.trans ak
 f225:=func277.trans ak
 f266:=func274.trans ak
 f267:=func279.trans ak
 f314:=func292.trans ak
 t3:=underlying3
 a3:=isAgg3
 z3:=sizeOf3
 v3:=zeroValue3
 t4:=underlying4
 a4:=isAgg4
 z4:=sizeOf4
 v4:=zeroValue4
 t5:=underlying5
 a5:=isAgg5
 z5:=sizeOf5
 v5:=zeroValue5
 t9:=underlying9
 a9:=isAgg9
 z9:=sizeOf9
 v9:=zeroValue9
 t46:=underlying246
 a46:=isAgg246
 z46:=sizeOf246
 v46:=zeroValue246
 t51:=underlying234
 a51:=isAgg234
 z51:=sizeOf234
 v51:=zeroValue234
 t59:=underlying209
 a59:=isAgg209
 z59:=sizeOf209
 v59:=zeroValue209
 t146:=underlying248
 a146:=isAgg248
 z146:=sizeOf248
 v146:=zeroValue248
 g1:=by kernel_rfl }
open Go.RowKit Go.Lib in
theorem strings_Cut (s sep:ByteArray) (m:Int) (w:World) (hs:s.size<4294967281) (hm:w.cell? ⟨0,0,none⟩=some (.int .i64 m)) :
    Calls prog 163 #[.string s,.string sep] w fun e w'=>e = .returned (.tuple #[.string ⟨(Lib.cut s.data.toList sep.data.toList).1.toArray⟩,.string ⟨(Lib.cut s.data.toList sep.data.toList).2.1.toArray⟩,.bool (Lib.cut s.data.toList sep.data.toList).2.2])/\∃ n,w'=w.drewN n:=Any.strings_Cut lays145 s sep m w hs hm
def lays99_ren:Go.Shelf.Ren:=⟨fun|99=>233|206=>265|n=>n,fun|9=>9|4=>4|3=>3|n=>n,fun|n=>n⟩
theorem lays99:Go.Proofs.Lays.n99 prog lays99_ren:={
 mixed:=ag
 f99:=func233.trans ak
 f206:=func265.trans ak
 t3:=underlying3
 a3:=isAgg3
 z3:=sizeOf3
 v3:=zeroValue3
 t4:=underlying4
 a4:=isAgg4
 z4:=sizeOf4
 v4:=zeroValue4
 t9:=underlying9
 a9:=isAgg9
 z9:=sizeOf9
 v9:=zeroValue9 }
open Go.RowKit Go.Lib in
theorem strings_HasPrefix (s p:ByteArray) (w:World) :
    Calls prog 233 #[.string s,.string p] w fun e w'=>e = .returned (.bool (Lib.hasPrefix s.data.toList p.data.toList))/\w'=w:=Any.strings_HasPrefix lays99 s p w
def lays101_ren:Go.Shelf.Ren:=⟨fun|101=>165|208=>234|206=>265|n=>n,fun|9=>9|4=>4|3=>3|n=>n,fun|n=>n⟩
theorem lays101:Go.Proofs.Lays.n101 prog lays101_ren:={
 mixed:=ag
 f101:=func165.trans ak
 f206:=func265.trans ak
 f208:=func234.trans ak
 t3:=underlying3
 a3:=isAgg3
 z3:=sizeOf3
 v3:=zeroValue3
 t4:=underlying4
 a4:=isAgg4
 z4:=sizeOf4
 v4:=zeroValue4
 t9:=underlying9
 a9:=isAgg9
 z9:=sizeOf9
 v9:=zeroValue9 }
open Go.RowKit Go.Lib in
theorem strings_TrimPrefix (s p:ByteArray) (w:World) :
    Calls prog 165 #[.string s,.string p] w fun e w'=>e = .returned (.string ⟨(Lib.trimPrefix s.data.toList p.data.toList).toArray⟩)/\w'=w:=Any.strings_TrimPrefix lays101 s p w
def lays212_ren:Go.Shelf.Ren:=⟨fun|212=>214|263=>258|264=>259|n=>n,fun|46=>246|51=>234|146=>248|53=>245|148=>289|n=>n,fun|n=>n⟩
theorem lays212:Go.Proofs.Lays.n212 prog lays212_ren:={
 mixed:=ag
 f212:=func214.trans ak
 f263:=func258.trans ak
 f264:=func259.trans ak
 t46:=underlying246
 a46:=isAgg246
 z46:=sizeOf246
 v46:=zeroValue246
 t51:=underlying234
 a51:=isAgg234
 z51:=sizeOf234
 v51:=zeroValue234
 t53:=underlying245
 a53:=isAgg245
 z53:=sizeOf245
 v53:=zeroValue245
 t146:=underlying248
 a146:=isAgg248
 z146:=sizeOf248
 v146:=zeroValue248
 t148:=underlying289
 a148:=isAgg289
 z148:=sizeOf289
 v148:=zeroValue289 }
open Go.RowKit Go.Lib in
theorem bits_Mul (x y:Nat) (hx:x<18446744073709551616) (hy:y<18446744073709551616) (w:World) :
    Calls prog 214 #[.int .u64 x,.int .u64 y] w fun e w'=>e = .returned (.tuple #[.int .u64 ((x*y / 18446744073709551616:Nat):Int),.int .u64 ((x*y % 18446744073709551616:Nat):Int)])/\w'=w:=Any.bits_Mul lays212 x y hx hy w
def laysNm215_ren:Go.Shelf.Ren:=⟨fun|15=>195|n=>n,fun|22=>85|3=>3|4=>4|n=>n,fun|n=>n⟩
theorem laysNm215:Go.Proofs.Lays2.n15 prog laysNm215_ren:={
 mixed:=ag
 f15:=func195.trans ak
 t3:=underlying3
 a3:=isAgg3
 z3:=sizeOf3
 v3:=zeroValue3
 t4:=underlying4
 a4:=isAgg4
 z4:=sizeOf4
 v4:=zeroValue4
 t22:=underlying85
 a22:=isAgg85
 z22:=sizeOf85
 v22:=zeroValue85
 i3:=by kernel_rfl }
open Go.RowKit Go.Lib in
theorem slices_Clone_int (b off n c:Nat) (zs:List Int) (w:World) (hz:n<=zs.length) (hbig:n*8<=140737488355328) (hc:∀ j,j<zs.length->w.cell? ⟨b,off+j,none⟩=some (.int .i64 (zs.getD j 0))) :
    Calls prog 195 #[.slice (some ⟨b,off,none⟩) n c] w fun e w'=>∃ v',e = .returned v'/\w'.ownsRow w.heap.size 3 1 v' n ((zs.take n).map (Value.int .i64))/\v' ≠ .slice none 0 0/\Below w.heap.size w w':=Any.slices_Clone_int laysNm215 b off n c zs w hz hbig hc
open Go.RowKit Go.Lib in
theorem slices_Clone_int_nil (n c:Nat) (w:World) :
    Calls prog 195 #[.slice none n c] w fun e w'=>e = .returned (.slice none 0 0)/\w'=w:=Any.slices_Clone_int_nil laysNm215 n c w
open Go.RowKit Go.Lib in
theorem slices_Clone_int_zero (a:Addr) (c:Nat) (w:World) :
    Calls prog 195 #[.slice (some a) 0 c] w fun e w'=>∃ v',e = .returned v'/\w'.ownsRow w.heap.size 3 1 v' 0 []/\v' ≠ .slice none 0 0/\Below w.heap.size w w':=Any.slices_Clone_int_zero laysNm215 a c w
end Go.Proofs
