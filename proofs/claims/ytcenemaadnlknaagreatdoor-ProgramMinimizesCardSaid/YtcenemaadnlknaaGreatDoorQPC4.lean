/- Part 4 of the proof: Shelf. -/
import Derived.Shelf.Strings.Builder1
import Derived.Shelf.Small.Strs
import Derived.Shelf.Small.Wraps
import Derived.Shelf.Strings.BuilderF
import Derived.Shelf.Strings.BuilderK
import Derived.Shelf.Strconv.Atoi
import Derived.Shelf.Strconv.Itoa0
import Derived.Shelf.Strconv.Itoa1
import Derived.Shelf.LaysM
import Derived.Shelf.Strconv.Itoa2
import Derived.Shelf.Strconv.Itoa3
import Derived.Shelf.Strconv.AtoiErrFast
import Derived.Shelf.Strconv.ParseIntEmpty
import Derived.Shelf.Strconv.AtoiFail
import Derived.Shelf.Strconv.Clone
import Derived.Shelf.Strconv.SyntaxError
import Derived.Shelf.LaysC
import Derived.Shelf.Strconv.ToError
import Derived.Shelf.Strconv.AtoiErr
import Derived.Shelf.Strconv.ErrVar
import Derived.Shelf.Strconv.Lower
import Derived.Shelf.Strconv.ParseUint10
import Derived.Shelf.Strconv.ParseUint10Empty
import Derived.Shelf.Strconv.ParseUint10Any
import Derived.Shelf.Strconv.ParseInt10
import Derived.Shelf.Strconv.AtoiLong
import Derived.Shelf.Strconv.AtoiInnerAll
import Derived.Shelf.Strconv.RangeError
import Derived.Shelf.Strconv.ToErrorRange
import Derived.Shelf.Strconv.AtoiAll
import Derived.Shelf.Strconv.ErrVarAll
import Derived.Shelf.Strconv.ParseUintEmpty
import Derived.Shelf.Strconv.ParseUint10b64
import Derived.Shelf.Strconv.ParseUint10b32
import Derived.Shelf.Strconv.ParseUint10b16
import Derived.Shelf.Strconv.ParseUint10b8
import Derived.Shelf.Strconv.ParseUint10At
import Derived.Shelf.Strconv.ParseInt10At64
import Derived.Shelf.Strconv.ParseInt10At32
import Derived.Shelf.Strconv.ParseInt10At16
import Derived.Shelf.Strconv.ParseInt10At8
import Derived.Shelf.Strconv.ParseInt10All
import Derived.Ground.MpProg
import Derived.Shelf.Pu.ParseUintPublic10
import Derived.Shelf.Pu.ErrVarParseUint
import Derived.Shelf.Strings.Search1
import Derived.Shelf.Strings.Search2
import Derived.Shelf.Strings.Cut
import Derived.Shelf.Strings.Shaped
import Derived.Shelf.Strings.Prefix
import Derived.Shelf.Bits.Mul64
import Derived.Ground.Names2Prog
import Derived.Shelf.Slices.Clone
import Derived.Test.YtcenemaadnlknaaGreatDoorProg
set_option maxRecDepth 100000
set_option maxHeartbeats 2000000
namespace Go.Proofs
open Go.Shelf
def Tryz.lays169_ren:Go.Shelf.Ren:=⟨fun|169=>153|n=>n,fun|70=>181|9=>9|0=>0|72=>184|37=>182|127=>196|3=>3|5=>5|n=>n,fun|n=>n⟩
theorem Tryz.lays169:Go.Proofs.Lays.n169 Tryz.prog Tryz.lays169_ren:={
 mixed:=by kernel_rfl
 f169:=Tryz.func153.trans (congrArg some (by kernel_rfl))
 t0:=Tryz.underlying0
 a0:=Tryz.isAgg0
 z0:=Tryz.sizeOf0
 v0:=Tryz.zeroValue0
 t3:=Tryz.underlying3
 a3:=Tryz.isAgg3
 z3:=Tryz.sizeOf3
 v3:=Tryz.zeroValue3
 t9:=Tryz.underlying9
 a9:=Tryz.isAgg9
 z9:=Tryz.sizeOf9
 v9:=Tryz.zeroValue9
 t37:=Tryz.underlying182
 a37:=Tryz.isAgg182
 z37:=Tryz.sizeOf182
 v37:=Tryz.zeroValue182
 t70:=Tryz.underlying181
 a70:=Tryz.isAgg181
 z70:=Tryz.sizeOf181
 v70:=Tryz.zeroValue181
 t72:=Tryz.underlying184
 a72:=Tryz.isAgg184
 z72:=Tryz.sizeOf184
 v72:=Tryz.zeroValue184
 t127:=Tryz.underlying196
 a127:=Tryz.isAgg196
 z127:=Tryz.sizeOf196
 v127:=Tryz.zeroValue196 }
theorem Tryz.Builder_Extra_169:Builder.Extra Tryz.prog Tryz.lays169_ren:={
 sizeBuilder:=by kernel_rfl
 liesBuilder:=by kernel_rfl
 t5:=Tryz.underlying5
 a5:=Tryz.isAgg5
 z5:=Tryz.sizeOf5
 v5:=Tryz.zeroValue5
 infoByte:=by kernel_rfl
 cellsByte:=by kernel_rfl
 sizeByte:=by kernel_rfl
 neB5:=by decide }
def Tryz.lays213_ren:Go.Shelf.Ren:=⟨fun|213=>155|265=>167|n=>n,fun|9=>9|3=>3|n=>n,fun|n=>n⟩
def Tryz.lays106_ren:Go.Shelf.Ren:=⟨fun|106=>134|213=>155|265=>167|n=>n,fun|9=>9|3=>3|n=>n,fun|n=>n⟩
theorem Tryz.lays106:Go.Proofs.Lays.n106 Tryz.prog Tryz.lays106_ren:={
 mixed:=by kernel_rfl
 f106:=Tryz.func134.trans (congrArg some (by kernel_rfl))
 f213:=Tryz.func155.trans (congrArg some (by kernel_rfl))
 f265:=Tryz.func167.trans (congrArg some (by kernel_rfl))
 t3:=Tryz.underlying3
 a3:=Tryz.isAgg3
 z3:=Tryz.sizeOf3
 v3:=Tryz.zeroValue3
 t9:=Tryz.underlying9
 a9:=Tryz.isAgg9
 z9:=Tryz.sizeOf9
 v9:=Tryz.zeroValue9 }
open Go.RowKit in
theorem Tryz.strings_Compare (a b:ByteArray) (w:World) :
    Calls Tryz.prog 134 #[.string a,.string b] w fun e w'=>e = .returned (.int .i64 (Lib.compareBytes a.data.toList b.data.toList))/\w'=w:=Any.strings_Compare Tryz.lays106 a b w
def Tryz.lays210_ren:Go.Shelf.Ren:=⟨fun|210=>158|206=>160|n=>n,fun|9=>9|4=>4|3=>3|n=>n,fun|n=>n⟩
def Tryz.lays103_ren:Go.Shelf.Ren:=⟨fun|103=>142|210=>158|206=>160|n=>n,fun|9=>9|4=>4|24=>169|3=>3|n=>n,fun|n=>n⟩
theorem Tryz.lays103:Go.Proofs.Lays.n103 Tryz.prog Tryz.lays103_ren:={
 mixed:=by kernel_rfl
 f103:=Tryz.func142.trans (congrArg some (by kernel_rfl))
 f206:=Tryz.func160.trans (congrArg some (by kernel_rfl))
 f210:=Tryz.func158.trans (congrArg some (by kernel_rfl))
 t3:=Tryz.underlying3
 a3:=Tryz.isAgg3
 z3:=Tryz.sizeOf3
 v3:=Tryz.zeroValue3
 t4:=Tryz.underlying4
 a4:=Tryz.isAgg4
 z4:=Tryz.sizeOf4
 v4:=Tryz.zeroValue4
 t9:=Tryz.underlying9
 a9:=Tryz.isAgg9
 z9:=Tryz.sizeOf9
 v9:=Tryz.zeroValue9
 t24:=Tryz.underlying169
 a24:=Tryz.isAgg169
 z24:=Tryz.sizeOf169
 v24:=Tryz.zeroValue169 }
open Go.RowKit in
theorem Tryz.strings_CutPrefix (s p:ByteArray) (w:World) :
    Calls Tryz.prog 142 #[.string s,.string p] w fun e w'=>e = .returned (.tuple #[.string ⟨(Lib.trimPrefix s.data.toList p.data.toList).toArray⟩,.bool (Lib.hasPrefix s.data.toList p.data.toList)])/\w'=w:=Any.strings_CutPrefix Tryz.lays103 s p w
open Go.RowKit in
theorem Tryz.Builder_String_any_k (B b:Nat) (l:List UInt8) (w:World) (h:Lib.IsBuilderF 184 5 B b (Lib.byteCells l) w) (hBw:B<=w.heap.size) :
    Calls Tryz.prog 153 #[.pointer (some ⟨b,0,none⟩)] w fun e w'=>e = .returned (.string ⟨l.toArray⟩)/\(Lib.IsBuilderF 184 5 B b (Lib.byteCells l) w'/\Below B w w'/\Lib.OthersKept 5 (some b) w w'):=Any.Builder_String_any_k Tryz.lays169 Tryz.Builder_Extra_169 B b l w h hBw
def Tryz.lays172_ren:Go.Shelf.Ren:=⟨fun|172=>146|244=>161|245=>162|247=>176|279=>177|280=>178|281=>179|282=>180|287=>163|316=>191|171=>95|205=>192|321=>181|322=>182|243=>136|246=>156|283=>168|284=>169|285=>170|286=>171|129=>185|317=>184|318=>186|319=>187|320=>188|337=>193|338=>194|n=>n,fun|9=>9|3=>3|75=>175|76=>176|4=>4|5=>5|167=>203|37=>182|0=>0|85=>204|2=>2|168=>206|53=>164|175=>178|46=>130|210=>220|127=>196|145=>225|143=>223|21=>21|171=>197|173=>200|212=>214|51=>161|20=>20|213=>215|232=>226|233=>227|80=>190|n=>n,fun|15=>2|16=>3|17=>1|18=>4|19=>5|n=>n⟩
theorem Tryz.lays172:Go.Proofs.Lays.n172 Tryz.prog Tryz.lays172_ren:={
 mixed:=by kernel_rfl
 f129:=Tryz.func185.trans (congrArg some (by kernel_rfl))
 f171:=Tryz.func95.trans (congrArg some (by kernel_rfl))
 f172:=Tryz.func146.trans (congrArg some (by kernel_rfl))
 f205:=Tryz.func192.trans (congrArg some (by kernel_rfl))
 f243:=Tryz.func136.trans (congrArg some (by kernel_rfl))
 f244:=Tryz.func161.trans (congrArg some (by kernel_rfl))
 f245:=Tryz.func162.trans (congrArg some (by kernel_rfl))
 f246:=Tryz.func156.trans (congrArg some (by kernel_rfl))
 f247:=Tryz.func176.trans (congrArg some (by kernel_rfl))
 f279:=Tryz.func177.trans (congrArg some (by kernel_rfl))
 f280:=Tryz.func178.trans (congrArg some (by kernel_rfl))
 f281:=Tryz.func179.trans (congrArg some (by kernel_rfl))
 f282:=Tryz.func180.trans (congrArg some (by kernel_rfl))
 f283:=Tryz.func168.trans (congrArg some (by kernel_rfl))
 f284:=Tryz.func169.trans (congrArg some (by kernel_rfl))
 f285:=Tryz.func170.trans (congrArg some (by kernel_rfl))
 f286:=Tryz.func171.trans (congrArg some (by kernel_rfl))
 f287:=Tryz.func163.trans (congrArg some (by kernel_rfl))
 f316:=Tryz.func191.trans (congrArg some (by kernel_rfl))
 f317:=Tryz.func184.trans (congrArg some (by kernel_rfl))
 f318:=Tryz.func186.trans (congrArg some (by kernel_rfl))
 f319:=Tryz.func187.trans (congrArg some (by kernel_rfl))
 f320:=Tryz.func188.trans (congrArg some (by kernel_rfl))
 f321:=Tryz.func181.trans (congrArg some (by kernel_rfl))
 f322:=Tryz.func182.trans (congrArg some (by kernel_rfl))
 f337:=Tryz.func193.trans (congrArg some (by kernel_rfl))
 f338:=Tryz.func194.trans (congrArg some (by kernel_rfl))
 t0:=Tryz.underlying0
 a0:=Tryz.isAgg0
 z0:=Tryz.sizeOf0
 v0:=Tryz.zeroValue0
 t2:=Tryz.underlying2
 a2:=Tryz.isAgg2
 z2:=Tryz.sizeOf2
 v2:=Tryz.zeroValue2
 t3:=Tryz.underlying3
 a3:=Tryz.isAgg3
 z3:=Tryz.sizeOf3
 v3:=Tryz.zeroValue3
 t4:=Tryz.underlying4
 a4:=Tryz.isAgg4
 z4:=Tryz.sizeOf4
 v4:=Tryz.zeroValue4
 t5:=Tryz.underlying5
 a5:=Tryz.isAgg5
 z5:=Tryz.sizeOf5
 v5:=Tryz.zeroValue5
 t9:=Tryz.underlying9
 a9:=Tryz.isAgg9
 z9:=Tryz.sizeOf9
 v9:=Tryz.zeroValue9
 t20:=Tryz.underlying20
 a20:=Tryz.isAgg20
 z20:=Tryz.sizeOf20
 v20:=Tryz.zeroValue20
 t21:=Tryz.underlying21
 a21:=Tryz.isAgg21
 z21:=Tryz.sizeOf21
 v21:=Tryz.zeroValue21
 t37:=Tryz.underlying182
 a37:=Tryz.isAgg182
 z37:=Tryz.sizeOf182
 v37:=Tryz.zeroValue182
 t46:=Tryz.underlying130
 a46:=Tryz.isAgg130
 z46:=Tryz.sizeOf130
 v46:=Tryz.zeroValue130
 t51:=Tryz.underlying161
 a51:=Tryz.isAgg161
 z51:=Tryz.sizeOf161
 v51:=Tryz.zeroValue161
 t53:=Tryz.underlying164
 a53:=Tryz.isAgg164
 z53:=Tryz.sizeOf164
 v53:=Tryz.zeroValue164
 t75:=Tryz.underlying175
 a75:=Tryz.isAgg175
 z75:=Tryz.sizeOf175
 v75:=Tryz.zeroValue175
 t76:=Tryz.underlying176
 a76:=Tryz.isAgg176
 z76:=Tryz.sizeOf176
 v76:=Tryz.zeroValue176
 t85:=Tryz.underlying204
 a85:=Tryz.isAgg204
 z85:=Tryz.sizeOf204
 v85:=Tryz.zeroValue204
 t127:=Tryz.underlying196
 a127:=Tryz.isAgg196
 z127:=Tryz.sizeOf196
 v127:=Tryz.zeroValue196
 t143:=Tryz.underlying223
 a143:=Tryz.isAgg223
 z143:=Tryz.sizeOf223
 v143:=Tryz.zeroValue223
 t145:=Tryz.underlying225
 a145:=Tryz.isAgg225
 z145:=Tryz.sizeOf225
 v145:=Tryz.zeroValue225
 t167:=Tryz.underlying203
 a167:=Tryz.isAgg203
 z167:=Tryz.sizeOf203
 v167:=Tryz.zeroValue203
 t168:=Tryz.underlying206
 a168:=Tryz.isAgg206
 z168:=Tryz.sizeOf206
 v168:=Tryz.zeroValue206
 t171:=Tryz.underlying197
 a171:=Tryz.isAgg197
 z171:=Tryz.sizeOf197
 v171:=Tryz.zeroValue197
 t173:=Tryz.underlying200
 a173:=Tryz.isAgg200
 z173:=Tryz.sizeOf200
 v173:=Tryz.zeroValue200
 t175:=Tryz.underlying178
 a175:=Tryz.isAgg178
 z175:=Tryz.sizeOf178
 v175:=Tryz.zeroValue178
 t210:=Tryz.underlying220
 a210:=Tryz.isAgg220
 z210:=Tryz.sizeOf220
 v210:=Tryz.zeroValue220
 t212:=Tryz.underlying214
 a212:=Tryz.isAgg214
 z212:=Tryz.sizeOf214
 v212:=Tryz.zeroValue214
 t213:=Tryz.underlying215
 a213:=Tryz.isAgg215
 z213:=Tryz.sizeOf215
 t232:=Tryz.underlying226
 a232:=Tryz.isAgg226
 z232:=Tryz.sizeOf226
 v232:=Tryz.zeroValue226
 t233:=Tryz.underlying227
 a233:=Tryz.isAgg227
 z233:=Tryz.sizeOf227
 v233:=Tryz.zeroValue227
 g15:=by kernel_rfl
 g16:=by kernel_rfl
 g17:=by kernel_rfl
 g18:=by kernel_rfl
 g19:=by kernel_rfl }
open Go.RowKit in
theorem Tryz.strconv_Atoi (s:ByteArray) (n:Int) (hl:s.size<=18) (h:Lib.atoi s.data.toList=some n) (w:World) :
    Calls Tryz.prog 146 #[.string s] w fun e w'=>e = .returned (.tuple #[.int .i64 n,.nilIface])/\∃ t,w'=Lib.bytesWorld w 5 t:=Any.strconv_Atoi Tryz.lays172 s n hl h w
def Tryz.lays283_ren:Go.Shelf.Ren:=⟨fun|283=>168|n=>n,fun|3=>3|9=>9|4=>4|n=>n,fun|n=>n⟩
theorem Tryz.lays283:Go.Proofs.Lays.n283 Tryz.prog Tryz.lays283_ren:={
 mixed:=by kernel_rfl
 f283:=Tryz.func168.trans (congrArg some (by kernel_rfl))
 t3:=Tryz.underlying3
 a3:=Tryz.isAgg3
 z3:=Tryz.sizeOf3
 v3:=Tryz.zeroValue3
 t4:=Tryz.underlying4
 a4:=Tryz.isAgg4
 z4:=Tryz.sizeOf4
 v4:=Tryz.zeroValue4
 t9:=Tryz.underlying9
 a9:=Tryz.isAgg9
 z9:=Tryz.sizeOf9
 v9:=Tryz.zeroValue9 }
open Go.Lib in
theorem Tryz.internal_strconv_small (i:Nat) (h:i<100) (w:World) :
    Calls Tryz.prog 168 #[.int .i64 i] w fun e w'=>e = .returned (.string ⟨(Lib.decDigits i).toArray⟩)/\w'=w:=Any.internal_strconv_small Tryz.lays283 i h w
def Tryz.laysM284_ren:Go.Shelf.Ren:=⟨fun|284=>169|129=>185|317=>184|318=>186|n=>n,fun|53=>164|3=>3|212=>214|0=>0|4=>4|46=>130|5=>5|9=>9|n=>n,fun|17=>1|n=>n⟩
theorem Tryz.laysM284:Go.Proofs.LaysM.n284 Tryz.prog Tryz.laysM284_ren:={
 mixed:=by kernel_rfl
 f129:=Tryz.func185.trans (congrArg some (by kernel_rfl))
 f284:=Tryz.func169.trans (congrArg some (by kernel_rfl))
 f317:=Tryz.func184.trans (congrArg some (by kernel_rfl))
 f318:=Tryz.func186.trans (congrArg some (by kernel_rfl))
 t0:=Tryz.underlying0
 a0:=Tryz.isAgg0
 z0:=Tryz.sizeOf0
 v0:=Tryz.zeroValue0
 t3:=Tryz.underlying3
 a3:=Tryz.isAgg3
 z3:=Tryz.sizeOf3
 v3:=Tryz.zeroValue3
 t4:=Tryz.underlying4
 a4:=Tryz.isAgg4
 z4:=Tryz.sizeOf4
 v4:=Tryz.zeroValue4
 t5:=Tryz.underlying5
 a5:=Tryz.isAgg5
 z5:=Tryz.sizeOf5
 v5:=Tryz.zeroValue5
 t9:=Tryz.underlying9
 a9:=Tryz.isAgg9
 z9:=Tryz.sizeOf9
 v9:=Tryz.zeroValue9
 t46:=Tryz.underlying130
 a46:=Tryz.isAgg130
 z46:=Tryz.sizeOf130
 v46:=Tryz.zeroValue130
 t53:=Tryz.underlying164
 a53:=Tryz.isAgg164
 z53:=Tryz.sizeOf164
 v53:=Tryz.zeroValue164
 t212:=Tryz.underlying214
 a212:=Tryz.isAgg214
 z212:=Tryz.sizeOf214
 v212:=Tryz.zeroValue214
 g17:=by kernel_rfl
 i0:=by kernel_rfl
 i3:=by kernel_rfl
 i4:=by kernel_rfl
 i5:=by kernel_rfl
 i9:=by kernel_rfl
 i46:=by kernel_rfl
 i53:=by kernel_rfl
 i212:=by kernel_rfl
 m17:=by kernel_rfl }
open Go.Lib in
theorem Tryz.internal_strconv_numDigits (u:Nat) (h1:1<=u) (h2:u<18446744073709551616) (w:World) (htab:Lib.TabIs Tryz.prog w "internal/strconv.uint64pow10" .u64 Lib.pow10Tab) :
    Calls Tryz.prog 169 #[.int .u64 u] w fun e w'=>e = .returned (.int .i64 (Lib.nDigits u))/\w'=w:=Any.internal_strconv_numDigits Tryz.laysM284 u h1 h2 w htab
def Tryz.lays285_ren:Go.Shelf.Ren:=⟨fun|285=>170|n=>n,fun|37=>182|53=>164|3=>3|4=>4|51=>161|9=>9|5=>5|0=>0|n=>n,fun|n=>n⟩
theorem Tryz.lays285:Go.Proofs.Lays.n285 Tryz.prog Tryz.lays285_ren:={
 mixed:=by kernel_rfl
 f285:=Tryz.func170.trans (congrArg some (by kernel_rfl))
 t0:=Tryz.underlying0
 a0:=Tryz.isAgg0
 z0:=Tryz.sizeOf0
 v0:=Tryz.zeroValue0
 t3:=Tryz.underlying3
 a3:=Tryz.isAgg3
 z3:=Tryz.sizeOf3
 v3:=Tryz.zeroValue3
 t4:=Tryz.underlying4
 a4:=Tryz.isAgg4
 z4:=Tryz.sizeOf4
 v4:=Tryz.zeroValue4
 t5:=Tryz.underlying5
 a5:=Tryz.isAgg5
 z5:=Tryz.sizeOf5
 v5:=Tryz.zeroValue5
 t9:=Tryz.underlying9
 a9:=Tryz.isAgg9
 z9:=Tryz.sizeOf9
 v9:=Tryz.zeroValue9
 t37:=Tryz.underlying182
 a37:=Tryz.isAgg182
 z37:=Tryz.sizeOf182
 v37:=Tryz.zeroValue182
 t51:=Tryz.underlying161
 a51:=Tryz.isAgg161
 z51:=Tryz.sizeOf161
 v51:=Tryz.zeroValue161
 t53:=Tryz.underlying164
 a53:=Tryz.isAgg164
 z53:=Tryz.sizeOf164
 v53:=Tryz.zeroValue164 }
open Go.RowKit Go.Sort Go.Lib in
theorem Tryz.internal_strconv_formatBase10 (blk off cap : Nat) (u : Nat) (d : Array UInt8) (w : World) (hH : Holds (fun (b : UInt8) => Value.int .u8 (b.toNat : Int)) w blk off d) (hu : u < 10 ^ d.size) (hu64 : u < 18446744073709551616) (hsz : d.size < 4611686018427387904) :
    Calls Tryz.prog 170 #[.slice (some ⟨blk,off,none⟩) d.size cap,.int .u64 u] w fun e w' =>
     e = .returned (.tuple #[])/\∃ (n v':Nat) (dk:Array UInt8),w'=(putRow (fun (b:UInt8)=>Value.int .u8 (b.toNat:Int)) w blk off dk).drewN n/\FmtInv d.size u 0 v' dk:=Any.internal_strconv_formatBase10 Tryz.lays285 blk off cap u d w hH hu hu64 hsz
def Tryz.laysM246_ren:Go.Shelf.Ren:=⟨fun|246=>156|283=>168|284=>169|285=>170|286=>171|129=>185|317=>184|318=>186|319=>187|320=>188|337=>193|338=>194|n=>n,fun|2=>2|3=>3|9=>9|4=>4|171=>197|0=>0|53=>164|37=>182|5=>5|173=>200|212=>214|51=>161|20=>20|213=>215|46=>130|232=>226|233=>227|n=>n,fun|17=>1|18=>4|19=>5|n=>n⟩
def Tryz.laysM243_ren:Go.Shelf.Ren:=⟨fun|243=>136|246=>156|283=>168|284=>169|285=>170|286=>171|129=>185|317=>184|318=>186|319=>187|320=>188|337=>193|338=>194|n=>n,fun|3=>3|9=>9|2=>2|4=>4|171=>197|0=>0|53=>164|37=>182|5=>5|173=>200|212=>214|51=>161|20=>20|213=>215|46=>130|232=>226|233=>227|n=>n,fun|17=>1|18=>4|19=>5|n=>n⟩
def Tryz.laysM171_ren:Go.Shelf.Ren:=⟨fun|171=>95|243=>136|246=>156|283=>168|284=>169|285=>170|286=>171|129=>185|317=>184|318=>186|319=>187|320=>188|337=>193|338=>194|n=>n,fun|3=>3|9=>9|2=>2|4=>4|171=>197|0=>0|53=>164|37=>182|5=>5|173=>200|212=>214|51=>161|20=>20|213=>215|46=>130|232=>226|233=>227|n=>n,fun|17=>1|18=>4|19=>5|n=>n⟩
theorem Tryz.laysM171:Go.Proofs.LaysM.n171 Tryz.prog Tryz.laysM171_ren:={
 mixed:=by kernel_rfl
 f129:=Tryz.func185.trans (congrArg some (by kernel_rfl))
 f171:=Tryz.func95.trans (congrArg some (by kernel_rfl))
 f243:=Tryz.func136.trans (congrArg some (by kernel_rfl))
 f246:=Tryz.func156.trans (congrArg some (by kernel_rfl))
 f283:=Tryz.func168.trans (congrArg some (by kernel_rfl))
 f284:=Tryz.func169.trans (congrArg some (by kernel_rfl))
 f285:=Tryz.func170.trans (congrArg some (by kernel_rfl))
 f286:=Tryz.func171.trans (congrArg some (by kernel_rfl))
 f317:=Tryz.func184.trans (congrArg some (by kernel_rfl))
 f318:=Tryz.func186.trans (congrArg some (by kernel_rfl))
 f319:=Tryz.func187.trans (congrArg some (by kernel_rfl))
 f320:=Tryz.func188.trans (congrArg some (by kernel_rfl))
 f337:=Tryz.func193.trans (congrArg some (by kernel_rfl))
 f338:=Tryz.func194.trans (congrArg some (by kernel_rfl))
 t0:=Tryz.underlying0
 a0:=Tryz.isAgg0
 z0:=Tryz.sizeOf0
 v0:=Tryz.zeroValue0
 t2:=Tryz.underlying2
 a2:=Tryz.isAgg2
 z2:=Tryz.sizeOf2
 v2:=Tryz.zeroValue2
 t3:=Tryz.underlying3
 a3:=Tryz.isAgg3
 z3:=Tryz.sizeOf3
 v3:=Tryz.zeroValue3
 t4:=Tryz.underlying4
 a4:=Tryz.isAgg4
 z4:=Tryz.sizeOf4
 v4:=Tryz.zeroValue4
 t5:=Tryz.underlying5
 a5:=Tryz.isAgg5
 z5:=Tryz.sizeOf5
 v5:=Tryz.zeroValue5
 t9:=Tryz.underlying9
 a9:=Tryz.isAgg9
 z9:=Tryz.sizeOf9
 v9:=Tryz.zeroValue9
 t20:=Tryz.underlying20
 a20:=Tryz.isAgg20
 z20:=Tryz.sizeOf20
 v20:=Tryz.zeroValue20
 t37:=Tryz.underlying182
 a37:=Tryz.isAgg182
 z37:=Tryz.sizeOf182
 v37:=Tryz.zeroValue182
 t46:=Tryz.underlying130
 a46:=Tryz.isAgg130
 z46:=Tryz.sizeOf130
 v46:=Tryz.zeroValue130
 t51:=Tryz.underlying161
 a51:=Tryz.isAgg161
 z51:=Tryz.sizeOf161
 v51:=Tryz.zeroValue161
 t53:=Tryz.underlying164
 a53:=Tryz.isAgg164
 z53:=Tryz.sizeOf164
 v53:=Tryz.zeroValue164
 t171:=Tryz.underlying197
 a171:=Tryz.isAgg197
 z171:=Tryz.sizeOf197
 v171:=Tryz.zeroValue197
 t173:=Tryz.underlying200
 a173:=Tryz.isAgg200
 z173:=Tryz.sizeOf200
 v173:=Tryz.zeroValue200
 t212:=Tryz.underlying214
 a212:=Tryz.isAgg214
 z212:=Tryz.sizeOf214
 v212:=Tryz.zeroValue214
 t213:=Tryz.underlying215
 a213:=Tryz.isAgg215
 z213:=Tryz.sizeOf215
 t232:=Tryz.underlying226
 a232:=Tryz.isAgg226
 z232:=Tryz.sizeOf226
 v232:=Tryz.zeroValue226
 t233:=Tryz.underlying227
 a233:=Tryz.isAgg227
 z233:=Tryz.sizeOf227
 v233:=Tryz.zeroValue227
 g17:=by kernel_rfl
 g18:=by kernel_rfl
 g19:=by kernel_rfl
 i0:=by kernel_rfl
 i2:=by kernel_rfl
 i3:=by kernel_rfl
 i4:=by kernel_rfl
 i5:=by kernel_rfl
 i9:=by kernel_rfl
 i20:=by kernel_rfl
 i37:=by kernel_rfl
 i46:=by kernel_rfl
 i51:=by kernel_rfl
 i53:=by kernel_rfl
 i171:=by kernel_rfl
 i173:=by kernel_rfl
 i212:=by kernel_rfl
 i232:=by kernel_rfl
 i233:=by kernel_rfl
 m17:=by kernel_rfl
 m18:=by kernel_rfl
 m19:=by kernel_rfl }
open Go.RowKit Go.Sort Go.Lib in
theorem Tryz.strconv_Itoa (n:Int) (h0:-9223372036854775808<=n) (h1:n<=9223372036854775807) (w:World) (htab:Lib.TabIs Tryz.prog w "internal/strconv.uint64pow10" .u64 Lib.pow10Tab) :
    Calls Tryz.prog 95 #[.int .i64 n] w fun e w'=>e = .returned (.string ⟨(Lib.itoa n).toArray⟩)/\∃ k os,w'=grow (w.drewN k) os:=Any.strconv_Itoa Tryz.laysM171 n h0 h1 w htab
def Tryz.laysPu14_ren:Go.Shelf.Ren:=⟨fun|14=>147|16=>163|17=>162|19=>181|20=>182|21=>177|22=>178|23=>179|24=>180|25=>191|27=>95|26=>192|28=>136|29=>156|30=>168|31=>169|32=>170|33=>171|35=>185|34=>184|36=>186|37=>187|38=>188|39=>193|40=>194|n=>n,fun|9=>9|3=>3|22=>164|24=>175|25=>178|4=>4|34=>203|5=>5|36=>130|37=>182|0=>0|39=>206|21=>21|44=>220|47=>196|50=>225|48=>223|2=>2|52=>197|55=>200|59=>214|60=>161|20=>20|61=>215|65=>226|66=>227|67=>190|n=>n,fun|0=>2|1=>3|2=>1|3=>4|4=>5|n=>n⟩
theorem Tryz.laysPu14:Go.Proofs.LaysPu.n14 Tryz.prog Tryz.laysPu14_ren:={
 mixed:=by kernel_rfl
 f14:=Tryz.func147.trans (congrArg some (by kernel_rfl))
 f16:=Tryz.func163.trans (congrArg some (by kernel_rfl))
 f17:=Tryz.func162.trans (congrArg some (by kernel_rfl))
 f19:=Tryz.func181.trans (congrArg some (by kernel_rfl))
 f20:=Tryz.func182.trans (congrArg some (by kernel_rfl))
 f21:=Tryz.func177.trans (congrArg some (by kernel_rfl))
 f22:=Tryz.func178.trans (congrArg some (by kernel_rfl))
 f23:=Tryz.func179.trans (congrArg some (by kernel_rfl))
 f24:=Tryz.func180.trans (congrArg some (by kernel_rfl))
 f25:=Tryz.func191.trans (congrArg some (by kernel_rfl))
 f26:=Tryz.func192.trans (congrArg some (by kernel_rfl))
 f27:=Tryz.func95.trans (congrArg some (by kernel_rfl))
 f28:=Tryz.func136.trans (congrArg some (by kernel_rfl))
 f29:=Tryz.func156.trans (congrArg some (by kernel_rfl))
 f30:=Tryz.func168.trans (congrArg some (by kernel_rfl))
 f31:=Tryz.func169.trans (congrArg some (by kernel_rfl))
 f32:=Tryz.func170.trans (congrArg some (by kernel_rfl))
 f33:=Tryz.func171.trans (congrArg some (by kernel_rfl))
 f34:=Tryz.func184.trans (congrArg some (by kernel_rfl))
 f35:=Tryz.func185.trans (congrArg some (by kernel_rfl))
 f36:=Tryz.func186.trans (congrArg some (by kernel_rfl))
 f37:=Tryz.func187.trans (congrArg some (by kernel_rfl))
 f38:=Tryz.func188.trans (congrArg some (by kernel_rfl))
 f39:=Tryz.func193.trans (congrArg some (by kernel_rfl))
 f40:=Tryz.func194.trans (congrArg some (by kernel_rfl))
 t0:=Tryz.underlying0
 a0:=Tryz.isAgg0
 z0:=Tryz.sizeOf0
 v0:=Tryz.zeroValue0
 i0:=by kernel_rfl
 t2:=Tryz.underlying2
 a2:=Tryz.isAgg2
 z2:=Tryz.sizeOf2
 v2:=Tryz.zeroValue2
 i2:=by kernel_rfl
 t3:=Tryz.underlying3
 a3:=Tryz.isAgg3
 z3:=Tryz.sizeOf3
 v3:=Tryz.zeroValue3
 i3:=by kernel_rfl
 t4:=Tryz.underlying4
 a4:=Tryz.isAgg4
 z4:=Tryz.sizeOf4
 v4:=Tryz.zeroValue4
 i4:=by kernel_rfl
 t5:=Tryz.underlying5
 a5:=Tryz.isAgg5
 z5:=Tryz.sizeOf5
 v5:=Tryz.zeroValue5
 i5:=by kernel_rfl
 t9:=Tryz.underlying9
 a9:=Tryz.isAgg9
 z9:=Tryz.sizeOf9
 v9:=Tryz.zeroValue9
 i9:=by kernel_rfl
 t20:=Tryz.underlying20
 a20:=Tryz.isAgg20
 z20:=Tryz.sizeOf20
 v20:=Tryz.zeroValue20
 i20:=by kernel_rfl
 t21:=Tryz.underlying21
 a21:=Tryz.isAgg21
 z21:=Tryz.sizeOf21
 v21:=Tryz.zeroValue21
 i21:=by kernel_rfl
 t22:=Tryz.underlying164
 a22:=Tryz.isAgg164
 z22:=Tryz.sizeOf164
 v22:=Tryz.zeroValue164
 i22:=by kernel_rfl
 t24:=Tryz.underlying175
 a24:=Tryz.isAgg175
 z24:=Tryz.sizeOf175
 v24:=Tryz.zeroValue175
 i24:=by kernel_rfl
 t25:=Tryz.underlying178
 a25:=Tryz.isAgg178
 z25:=Tryz.sizeOf178
 v25:=Tryz.zeroValue178
 i25:=by kernel_rfl
 t34:=Tryz.underlying203
 a34:=Tryz.isAgg203
 z34:=Tryz.sizeOf203
 v34:=Tryz.zeroValue203
 i34:=by kernel_rfl
 c34:=by kernel_rfl
 t36:=Tryz.underlying130
 a36:=Tryz.isAgg130
 z36:=Tryz.sizeOf130
 v36:=Tryz.zeroValue130
 i36:=by kernel_rfl
 t37:=Tryz.underlying182
 a37:=Tryz.isAgg182
 z37:=Tryz.sizeOf182
 v37:=Tryz.zeroValue182
 i37:=by kernel_rfl
 t39:=Tryz.underlying206
 a39:=Tryz.isAgg206
 z39:=Tryz.sizeOf206
 v39:=Tryz.zeroValue206
 i39:=by kernel_rfl
 t44:=Tryz.underlying220
 a44:=Tryz.isAgg220
 z44:=Tryz.sizeOf220
 v44:=Tryz.zeroValue220
 i44:=by kernel_rfl
 t47:=Tryz.underlying196
 a47:=Tryz.isAgg196
 z47:=Tryz.sizeOf196
 v47:=Tryz.zeroValue196
 i47:=by kernel_rfl
 t48:=Tryz.underlying223
 a48:=Tryz.isAgg223
 z48:=Tryz.sizeOf223
 v48:=Tryz.zeroValue223
 i48:=by kernel_rfl
 t50:=Tryz.underlying225
 a50:=Tryz.isAgg225
 z50:=Tryz.sizeOf225
 v50:=Tryz.zeroValue225
 i50:=by kernel_rfl
 t52:=Tryz.underlying197
 a52:=Tryz.isAgg197
 z52:=Tryz.sizeOf197
 v52:=Tryz.zeroValue197
 i52:=by kernel_rfl
 t55:=Tryz.underlying200
 a55:=Tryz.isAgg200
 z55:=Tryz.sizeOf200
 v55:=Tryz.zeroValue200
 i55:=by kernel_rfl
 t59:=Tryz.underlying214
 a59:=Tryz.isAgg214
 z59:=Tryz.sizeOf214
 v59:=Tryz.zeroValue214
 i59:=by kernel_rfl
 t60:=Tryz.underlying161
 a60:=Tryz.isAgg161
 z60:=Tryz.sizeOf161
 v60:=Tryz.zeroValue161
 i60:=by kernel_rfl
 t61:=Tryz.underlying215
 a61:=Tryz.isAgg215
 z61:=Tryz.sizeOf215
 t65:=Tryz.underlying226
 a65:=Tryz.isAgg226
 z65:=Tryz.sizeOf226
 v65:=Tryz.zeroValue226
 i65:=by kernel_rfl
 t66:=Tryz.underlying227
 a66:=Tryz.isAgg227
 z66:=Tryz.sizeOf227
 v66:=Tryz.zeroValue227
 i66:=by kernel_rfl
 t67:=Tryz.underlying190
 a67:=Tryz.isAgg190
 z67:=Tryz.sizeOf190
 v67:=Tryz.zeroValue190
 i67:=by kernel_rfl
 g0:=by kernel_rfl
 m0:=by kernel_rfl
 g1:=by kernel_rfl
 m1:=by kernel_rfl
 g2:=by kernel_rfl
 m2:=by kernel_rfl
 g3:=by kernel_rfl
 m3:=by kernel_rfl
 g4:=by kernel_rfl
 m4:=by kernel_rfl }
open Go.RowKit in
theorem Tryz.strconv_ParseUint_10_at64_ok (s:ByteArray) (hmax:s.size<=9223372036854775806) (u:Nat) (h:Lib.parseUintB 64 s.data.toList = .ok u) (w:World) :
    Calls Tryz.prog 147 #[.string s,.int .i64 10,.int .i64 64] w fun e w'=>e = .returned (.tuple #[.int .u64 u,.nilIface])/\(w'=w∨w'=Lib.bytesWorld w 5 s):=Any.strconv_ParseUint_10_at64_ok Tryz.laysPu14 s hmax u h w
def Tryz.lays219_ren:Go.Shelf.Ren:=⟨fun|219=>157|217=>172|225=>173|224=>174|267=>175|266=>189|314=>190|n=>n,fun|9=>9|3=>3|4=>4|5=>5|46=>130|146=>162|51=>161|n=>n,fun|1=>0|n=>n⟩
theorem Tryz.lays219:Go.Proofs.Lays.n219 Tryz.prog Tryz.lays219_ren:={
 mixed:=by kernel_rfl
 f217:=Tryz.func172.trans (congrArg some (by kernel_rfl))
 f219:=Tryz.func157.trans (congrArg some (by kernel_rfl))
 f224:=Tryz.func174.trans (congrArg some (by kernel_rfl))
 f225:=Tryz.func173.trans (congrArg some (by kernel_rfl))
 f266:=Tryz.func189.trans (congrArg some (by kernel_rfl))
 f267:=Tryz.func175.trans (congrArg some (by kernel_rfl))
 f314:=Tryz.func190.trans (congrArg some (by kernel_rfl))
 t3:=Tryz.underlying3
 a3:=Tryz.isAgg3
 z3:=Tryz.sizeOf3
 v3:=Tryz.zeroValue3
 t4:=Tryz.underlying4
 a4:=Tryz.isAgg4
 z4:=Tryz.sizeOf4
 v4:=Tryz.zeroValue4
 t5:=Tryz.underlying5
 a5:=Tryz.isAgg5
 z5:=Tryz.sizeOf5
 v5:=Tryz.zeroValue5
 t9:=Tryz.underlying9
 a9:=Tryz.isAgg9
 z9:=Tryz.sizeOf9
 v9:=Tryz.zeroValue9
 t46:=Tryz.underlying130
 a46:=Tryz.isAgg130
 z46:=Tryz.sizeOf130
 v46:=Tryz.zeroValue130
 t51:=Tryz.underlying161
 a51:=Tryz.isAgg161
 z51:=Tryz.sizeOf161
 v51:=Tryz.zeroValue161
 t146:=Tryz.underlying162
 a146:=Tryz.isAgg162
 z146:=Tryz.sizeOf162
 v146:=Tryz.zeroValue162
 g1:=by kernel_rfl }
open Go.RowKit Go.Lib in
theorem Tryz.stringslite_Index_one (s:ByteArray) (c:UInt8) (w:World) :
    Calls Tryz.prog 157 #[.string s,.string ⟨#[c]⟩] w fun e w'=>e = .returned (.int .i64 (Lib.indexByte s.data.toList c))/\w'=w:=Any.stringslite_Index_one Tryz.lays219 s c w
def Tryz.lays145_ren:Go.Shelf.Ren:=⟨fun|145=>110|220=>141|219=>157|217=>172|225=>173|224=>174|267=>175|266=>189|314=>190|n=>n,fun|9=>9|4=>4|59=>141|3=>3|5=>5|46=>130|146=>162|51=>161|n=>n,fun|1=>0|n=>n⟩
theorem Tryz.lays145:Go.Proofs.Lays.n145 Tryz.prog Tryz.lays145_ren:={
 mixed:=by kernel_rfl
 f145:=Tryz.func110.trans (congrArg some (by kernel_rfl))
 f217:=Tryz.func172.trans (congrArg some (by kernel_rfl))
 f219:=Tryz.func157.trans (congrArg some (by kernel_rfl))
 f220:=Tryz.func141.trans (congrArg some (by kernel_rfl))
 f224:=Tryz.func174.trans (congrArg some (by kernel_rfl))
 f225:=Tryz.func173.trans (congrArg some (by kernel_rfl))
 f266:=Tryz.func189.trans (congrArg some (by kernel_rfl))
 f267:=Tryz.func175.trans (congrArg some (by kernel_rfl))
 f314:=Tryz.func190.trans (congrArg some (by kernel_rfl))
 t3:=Tryz.underlying3
 a3:=Tryz.isAgg3
 z3:=Tryz.sizeOf3
 v3:=Tryz.zeroValue3
 t4:=Tryz.underlying4
 a4:=Tryz.isAgg4
 z4:=Tryz.sizeOf4
 v4:=Tryz.zeroValue4
 t5:=Tryz.underlying5
 a5:=Tryz.isAgg5
 z5:=Tryz.sizeOf5
 v5:=Tryz.zeroValue5
 t9:=Tryz.underlying9
 a9:=Tryz.isAgg9
 z9:=Tryz.sizeOf9
 v9:=Tryz.zeroValue9
 t46:=Tryz.underlying130
 a46:=Tryz.isAgg130
 z46:=Tryz.sizeOf130
 v46:=Tryz.zeroValue130
 t51:=Tryz.underlying161
 a51:=Tryz.isAgg161
 z51:=Tryz.sizeOf161
 v51:=Tryz.zeroValue161
 t59:=Tryz.underlying141
 a59:=Tryz.isAgg141
 z59:=Tryz.sizeOf141
 v59:=Tryz.zeroValue141
 t146:=Tryz.underlying162
 a146:=Tryz.isAgg162
 z146:=Tryz.sizeOf162
 v146:=Tryz.zeroValue162
 g1:=by kernel_rfl }
open Go.RowKit Go.Lib in
theorem Tryz.strings_Cut (s sep:ByteArray) (m:Int) (w:World) (hs:s.size<4294967281) (hm:w.cell? ⟨0,0,none⟩=some (.int .i64 m)) :
    Calls Tryz.prog 110 #[.string s,.string sep] w fun e w'=>e = .returned (.tuple #[.string ⟨(Lib.cut s.data.toList sep.data.toList).1.toArray⟩,.string ⟨(Lib.cut s.data.toList sep.data.toList).2.1.toArray⟩,.bool (Lib.cut s.data.toList sep.data.toList).2.2])/\∃ n,w'=w.drewN n:=Any.strings_Cut Tryz.lays145 s sep m w hs hm
def Tryz.lays99_ren:Go.Shelf.Ren:=⟨fun|99=>145|206=>160|n=>n,fun|9=>9|4=>4|3=>3|n=>n,fun|n=>n⟩
theorem Tryz.lays99:Go.Proofs.Lays.n99 Tryz.prog Tryz.lays99_ren:={
 mixed:=by kernel_rfl
 f99:=Tryz.func145.trans (congrArg some (by kernel_rfl))
 f206:=Tryz.func160.trans (congrArg some (by kernel_rfl))
 t3:=Tryz.underlying3
 a3:=Tryz.isAgg3
 z3:=Tryz.sizeOf3
 v3:=Tryz.zeroValue3
 t4:=Tryz.underlying4
 a4:=Tryz.isAgg4
 z4:=Tryz.sizeOf4
 v4:=Tryz.zeroValue4
 t9:=Tryz.underlying9
 a9:=Tryz.isAgg9
 z9:=Tryz.sizeOf9
 v9:=Tryz.zeroValue9 }
open Go.RowKit Go.Lib in
theorem Tryz.strings_HasPrefix (s p:ByteArray) (w:World) :
    Calls Tryz.prog 145 #[.string s,.string p] w fun e w'=>e = .returned (.bool (Lib.hasPrefix s.data.toList p.data.toList))/\w'=w:=Any.strings_HasPrefix Tryz.lays99 s p w
def Tryz.lays101_ren:Go.Shelf.Ren:=⟨fun|101=>133|208=>154|206=>160|n=>n,fun|9=>9|4=>4|3=>3|n=>n,fun|n=>n⟩
theorem Tryz.lays101:Go.Proofs.Lays.n101 Tryz.prog Tryz.lays101_ren:={
 mixed:=by kernel_rfl
 f101:=Tryz.func133.trans (congrArg some (by kernel_rfl))
 f206:=Tryz.func160.trans (congrArg some (by kernel_rfl))
 f208:=Tryz.func154.trans (congrArg some (by kernel_rfl))
 t3:=Tryz.underlying3
 a3:=Tryz.isAgg3
 z3:=Tryz.sizeOf3
 v3:=Tryz.zeroValue3
 t4:=Tryz.underlying4
 a4:=Tryz.isAgg4
 z4:=Tryz.sizeOf4
 v4:=Tryz.zeroValue4
 t9:=Tryz.underlying9
 a9:=Tryz.isAgg9
 z9:=Tryz.sizeOf9
 v9:=Tryz.zeroValue9 }
open Go.RowKit Go.Lib in
theorem Tryz.strings_TrimPrefix (s p:ByteArray) (w:World) :
    Calls Tryz.prog 133 #[.string s,.string p] w fun e w'=>e = .returned (.string ⟨(Lib.trimPrefix s.data.toList p.data.toList).toArray⟩)/\w'=w:=Any.strings_TrimPrefix Tryz.lays101 s p w
def Tryz.lays212_ren:Go.Shelf.Ren:=⟨fun|212=>96|263=>137|264=>138|n=>n,fun|46=>130|51=>161|146=>162|53=>164|148=>165|n=>n,fun|n=>n⟩
theorem Tryz.lays212:Go.Proofs.Lays.n212 Tryz.prog Tryz.lays212_ren:={
 mixed:=by kernel_rfl
 f212:=Tryz.func96.trans (congrArg some (by kernel_rfl))
 f263:=Tryz.func137.trans (congrArg some (by kernel_rfl))
 f264:=Tryz.func138.trans (congrArg some (by kernel_rfl))
 t46:=Tryz.underlying130
 a46:=Tryz.isAgg130
 z46:=Tryz.sizeOf130
 v46:=Tryz.zeroValue130
 t51:=Tryz.underlying161
 a51:=Tryz.isAgg161
 z51:=Tryz.sizeOf161
 v51:=Tryz.zeroValue161
 t53:=Tryz.underlying164
 a53:=Tryz.isAgg164
 z53:=Tryz.sizeOf164
 v53:=Tryz.zeroValue164
 t146:=Tryz.underlying162
 a146:=Tryz.isAgg162
 z146:=Tryz.sizeOf162
 v146:=Tryz.zeroValue162
 t148:=Tryz.underlying165
 a148:=Tryz.isAgg165
 z148:=Tryz.sizeOf165
 v148:=Tryz.zeroValue165 }
open Go.RowKit Go.Lib in
theorem Tryz.bits_Mul (x y:Nat) (hx:x<18446744073709551616) (hy:y<18446744073709551616) (w:World) :
    Calls Tryz.prog 96 #[.int .u64 x,.int .u64 y] w fun e w'=>e = .returned (.tuple #[.int .u64 ((x*y / 18446744073709551616:Nat):Int),.int .u64 ((x*y % 18446744073709551616:Nat):Int)])/\w'=w:=Any.bits_Mul Tryz.lays212 x y hx hy w
def Tryz.laysNm215_ren:Go.Shelf.Ren:=⟨fun|15=>98|n=>n,fun|22=>52|3=>3|4=>4|n=>n,fun|n=>n⟩
theorem Tryz.laysNm215:Go.Proofs.Lays2.n15 Tryz.prog Tryz.laysNm215_ren:={
 mixed:=by kernel_rfl
 f15:=Tryz.func98.trans (congrArg some (by kernel_rfl))
 t3:=Tryz.underlying3
 a3:=Tryz.isAgg3
 z3:=Tryz.sizeOf3
 v3:=Tryz.zeroValue3
 t4:=Tryz.underlying4
 a4:=Tryz.isAgg4
 z4:=Tryz.sizeOf4
 v4:=Tryz.zeroValue4
 t22:=Tryz.underlying52
 a22:=Tryz.isAgg52
 z22:=Tryz.sizeOf52
 v22:=Tryz.zeroValue52
 i3:=by kernel_rfl }
open Go.RowKit Go.Lib in
theorem Tryz.slices_Clone_int (b off n c:Nat) (zs:List Int) (w:World) (hz:n<=zs.length) (hbig:n*8<=140737488355328) (hc:∀ j,j<zs.length->w.cell? ⟨b,off+j,none⟩=some (.int .i64 (zs.getD j 0))) :
    Calls Tryz.prog 98 #[.slice (some ⟨b,off,none⟩) n c] w fun e w'=>∃ v',e = .returned v'/\w'.ownsRow w.heap.size 3 1 v' n ((zs.take n).map (Value.int .i64))/\v' ≠ .slice none 0 0/\Below w.heap.size w w':=Any.slices_Clone_int Tryz.laysNm215 b off n c zs w hz hbig hc
open Go.RowKit Go.Lib in
theorem Tryz.slices_Clone_int_nil (n c:Nat) (w:World) :
    Calls Tryz.prog 98 #[.slice none n c] w fun e w'=>e = .returned (.slice none 0 0)/\w'=w:=Any.slices_Clone_int_nil Tryz.laysNm215 n c w
open Go.RowKit Go.Lib in
theorem Tryz.slices_Clone_int_zero (a:Addr) (c:Nat) (w:World) :
    Calls Tryz.prog 98 #[.slice (some a) 0 c] w fun e w'=>∃ v',e = .returned v'/\w'.ownsRow w.heap.size 3 1 v' 0 []/\v' ≠ .slice none 0 0/\Below w.heap.size w w':=Any.slices_Clone_int_zero Tryz.laysNm215 a c w
end Go.Proofs
