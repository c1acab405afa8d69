/- Part 4 of the proof: Shelf. -/
import Derived.Shelf.Strings.Builder1
import Derived.Shelf.Small.Strs
import Derived.Shelf.Small.Wraps
import Derived.Shelf.Strings.BuilderF
import Derived.Shelf.Strings.BuilderK
import Derived.Shelf.Strconv.Atoi
import Derived.Shelf.Strconv.Itoa0
import Derived.Shelf.Strconv.Itoa1
import Derived.Shelf.LaysM
import Derived.Shelf.Strconv.Itoa2
import Derived.Shelf.Strconv.Itoa3
import Derived.Shelf.Strconv.AtoiErrFast
import Derived.Shelf.Strconv.ParseIntEmpty
import Derived.Shelf.Strconv.AtoiFail
import Derived.Shelf.Strconv.Clone
import Derived.Shelf.Strconv.SyntaxError
import Derived.Shelf.LaysC
import Derived.Shelf.Strconv.ToError
import Derived.Shelf.Strconv.Lower
import Derived.Shelf.Strconv.ParseUint10
import Derived.Shelf.Strconv.ParseUint10Empty
import Derived.Shelf.Strconv.ParseUint10Any
import Derived.Shelf.Strconv.ParseInt10
import Derived.Shelf.Strconv.AtoiLong
import Derived.Shelf.Strconv.AtoiInnerAll
import Derived.Shelf.Strconv.RangeError
import Derived.Shelf.Strconv.ToErrorRange
import Derived.Shelf.Strconv.AtoiAll
import Derived.Shelf.Strconv.ErrVarAll
import Derived.Shelf.Strconv.ParseUintEmpty
import Derived.Shelf.Strconv.ParseUint10b64
import Derived.Shelf.Strconv.ParseUint10b32
import Derived.Shelf.Strconv.ParseUint10b16
import Derived.Shelf.Strconv.ParseUint10b8
import Derived.Shelf.Strconv.ParseUint10At
import Derived.Shelf.Strconv.ParseInt10At64
import Derived.Shelf.Strconv.ParseInt10At32
import Derived.Shelf.Strconv.ParseInt10At16
import Derived.Shelf.Strconv.ParseInt10At8
import Derived.Shelf.Strconv.ParseInt10All
import Derived.Shelf.Strconv.ParseIntPublic10
import Derived.Shelf.Strconv.ErrVarParseInt
import Derived.Ground.MpProg
import Derived.Shelf.Pu.ParseUintPublic10
import Derived.Shelf.Pu.ErrVarParseUint
import Derived.Shelf.Strings.Search1
import Derived.Shelf.Strings.Search2
import Derived.Shelf.Strings.Cut
import Derived.Shelf.Strings.Shaped
import Derived.Shelf.Strings.Prefix
import Derived.Test.YtjeimihnoiephaaGreatDoorProg
set_option maxRecDepth 100000
namespace Go.Proofs
open Go.Shelf
def Tryz.lays169_ren:Go.Shelf.Ren:=⟨fun|169=>171|n=>n,fun|70=>195|9=>9|0=>0|72=>198|37=>196|127=>212|3=>3|5=>5|n=>n,fun|n=>n⟩
theorem Tryz.lays169:Go.Proofs.Lays.n169 Tryz.prog Tryz.lays169_ren:={
  mixed:=by kernel_rfl
  f169:=Tryz.func171.trans (congrArg some (by kernel_rfl))
  t0:=Tryz.underlying0
  a0:=Tryz.isAgg0
  z0:=Tryz.sizeOf0
  v0:=Tryz.zeroValue0
  t3:=Tryz.underlying3
  a3:=Tryz.isAgg3
  z3:=Tryz.sizeOf3
  v3:=Tryz.zeroValue3
  t9:=Tryz.underlying9
  a9:=Tryz.isAgg9
  z9:=Tryz.sizeOf9
  v9:=Tryz.zeroValue9
  t37:=Tryz.underlying196
  a37:=Tryz.isAgg196
  z37:=Tryz.sizeOf196
  v37:=Tryz.zeroValue196
  t70:=Tryz.underlying195
  a70:=Tryz.isAgg195
  z70:=Tryz.sizeOf195
  v70:=Tryz.zeroValue195
  t72:=Tryz.underlying198
  a72:=Tryz.isAgg198
  z72:=Tryz.sizeOf198
  v72:=Tryz.zeroValue198
  t127:=Tryz.underlying212
  a127:=Tryz.isAgg212
  z127:=Tryz.sizeOf212
  v127:=Tryz.zeroValue212 }
theorem Tryz.Builder_Extra_169:Builder.Extra Tryz.prog Tryz.lays169_ren:={
  sizeBuilder:=by kernel_rfl
  liesBuilder:=by kernel_rfl
  t5:=Tryz.underlying5
  a5:=Tryz.isAgg5
  z5:=Tryz.sizeOf5
  v5:=Tryz.zeroValue5
  infoByte:=by kernel_rfl
  cellsByte:=by kernel_rfl
  sizeByte:=by kernel_rfl
  neB5:=by decide }
def Tryz.lays213_ren:Go.Shelf.Ren:=⟨fun|213=>180|265=>198|n=>n,fun|9=>9|3=>3|n=>n,fun|n=>n⟩
def Tryz.lays106_ren:Go.Shelf.Ren:=⟨fun|106=>148|213=>180|265=>198|n=>n,fun|9=>9|3=>3|n=>n,fun|n=>n⟩
theorem Tryz.lays106:Go.Proofs.Lays.n106 Tryz.prog Tryz.lays106_ren:={
  mixed:=by kernel_rfl
  f106:=Tryz.func148.trans (congrArg some (by kernel_rfl))
  f213:=Tryz.func180.trans (congrArg some (by kernel_rfl))
  f265:=Tryz.func198.trans (congrArg some (by kernel_rfl))
  t3:=Tryz.underlying3
  a3:=Tryz.isAgg3
  z3:=Tryz.sizeOf3
  v3:=Tryz.zeroValue3
  t9:=Tryz.underlying9
  a9:=Tryz.isAgg9
  z9:=Tryz.sizeOf9
  v9:=Tryz.zeroValue9 }
open Go.RowKit in
theorem Tryz.strings_Compare (a b : ByteArray) (w : World) :
    Calls Tryz.prog 148 #[.string a,.string b] w fun e w'=>e = .returned (.int .i64 (Lib.compareBytes a.data.toList b.data.toList))∧w'=w:=Any.strings_Compare Tryz.lays106 a b w
def Tryz.lays137_ren:Go.Shelf.Ren:=⟨fun|137=>49|217=>106|266=>152|n=>n,fun|9=>9|5=>5|3=>3|n=>n,fun|n=>n⟩
theorem Tryz.lays137:Go.Proofs.Lays.n137 Tryz.prog Tryz.lays137_ren:={
  mixed:=by kernel_rfl
  f137:=Tryz.func49.trans (congrArg some (by kernel_rfl))
  f217:=Tryz.func106.trans (congrArg some (by kernel_rfl))
  f266:=Tryz.func152.trans (congrArg some (by kernel_rfl))
  t3:=Tryz.underlying3
  a3:=Tryz.isAgg3
  z3:=Tryz.sizeOf3
  v3:=Tryz.zeroValue3
  t5:=Tryz.underlying5
  a5:=Tryz.isAgg5
  z5:=Tryz.sizeOf5
  v5:=Tryz.zeroValue5
  t9:=Tryz.underlying9
  a9:=Tryz.isAgg9
  z9:=Tryz.sizeOf9
  v9:=Tryz.zeroValue9 }
open Go.RowKit in
theorem Tryz.strings_IndexByte (s : ByteArray) (c : Int) (w : World) :
    Calls Tryz.prog 49 #[.string s,.int .u8 c] w fun e w'=>e = .returned (.int .i64 (Lib.indexByte s.data.toList c.toNat.toUInt8))∧w'=w:=Any.strings_IndexByte Tryz.lays137 s c w
def Tryz.lays210_ren:Go.Shelf.Ren:=⟨fun|210=>178|206=>181|n=>n,fun|9=>9|4=>4|3=>3|n=>n,fun|n=>n⟩
def Tryz.lays103_ren:Go.Shelf.Ren:=⟨fun|103=>146|210=>178|206=>181|n=>n,fun|9=>9|4=>4|24=>170|3=>3|n=>n,fun|n=>n⟩
theorem Tryz.lays103:Go.Proofs.Lays.n103 Tryz.prog Tryz.lays103_ren:={
  mixed:=by kernel_rfl
  f103:=Tryz.func146.trans (congrArg some (by kernel_rfl))
  f206:=Tryz.func181.trans (congrArg some (by kernel_rfl))
  f210:=Tryz.func178.trans (congrArg some (by kernel_rfl))
  t3:=Tryz.underlying3
  a3:=Tryz.isAgg3
  z3:=Tryz.sizeOf3
  v3:=Tryz.zeroValue3
  t4:=Tryz.underlying4
  a4:=Tryz.isAgg4
  z4:=Tryz.sizeOf4
  v4:=Tryz.zeroValue4
  t9:=Tryz.underlying9
  a9:=Tryz.isAgg9
  z9:=Tryz.sizeOf9
  v9:=Tryz.zeroValue9
  t24:=Tryz.underlying170
  a24:=Tryz.isAgg170
  z24:=Tryz.sizeOf170
  v24:=Tryz.zeroValue170 }
open Go.RowKit in
theorem Tryz.strings_CutPrefix (s p : ByteArray) (w : World) :
    Calls Tryz.prog 146 #[.string s,.string p] w fun e w'=>e = .returned (.tuple #[.string ⟨(Lib.trimPrefix s.data.toList p.data.toList).toArray⟩,.bool (Lib.hasPrefix s.data.toList p.data.toList)])∧w'=w:=Any.strings_CutPrefix Tryz.lays103 s p w
open Go.RowKit in
theorem Tryz.Builder_String_any_k (B b : Nat) (l : List UInt8) (w : World) (h : Lib.IsBuilderF 198 5 B b (Lib.byteCells l) w) (hBw : B ≤ w.heap.size) :
    Calls Tryz.prog 171 #[.pointer (some ⟨b,0,none⟩)] w fun e w'=>e = .returned (.string ⟨l.toArray⟩)∧(Lib.IsBuilderF 198 5 B b (Lib.byteCells l) w'∧Below B w w'∧Lib.OthersKept 5 (some b) w w'):=Any.Builder_String_any_k Tryz.lays169 Tryz.Builder_Extra_169 B b l w h hBw
def Tryz.lays172_ren:Go.Shelf.Ren:=⟨fun|172=>161|244=>188|245=>183|247=>182|279=>199|280=>200|281=>201|282=>202|287=>190|316=>211|171=>116|205=>212|321=>207|322=>208|243=>162|246=>189|283=>203|284=>204|285=>205|286=>206|129=>214|317=>213|318=>215|319=>216|320=>217|337=>218|338=>219|n=>n,fun|9=>9|3=>3|75=>176|76=>185|4=>4|5=>5|167=>216|37=>196|0=>0|85=>177|2=>2|168=>217|53=>159|175=>187|46=>215|210=>234|127=>212|145=>242|143=>240|21=>21|171=>220|173=>223|212=>237|51=>229|20=>20|213=>238|232=>244|233=>245|80=>201|n=>n,fun|15=>1|16=>2|17=>3|18=>4|19=>5|n=>n⟩
theorem Tryz.lays172:Go.Proofs.Lays.n172 Tryz.prog Tryz.lays172_ren:={
  mixed:=by kernel_rfl
  f129:=Tryz.func214.trans (congrArg some (by kernel_rfl))
  f171:=Tryz.func116.trans (congrArg some (by kernel_rfl))
  f172:=Tryz.func161.trans (congrArg some (by kernel_rfl))
  f205:=Tryz.func212.trans (congrArg some (by kernel_rfl))
  f243:=Tryz.func162.trans (congrArg some (by kernel_rfl))
  f244:=Tryz.func188.trans (congrArg some (by kernel_rfl))
  f245:=Tryz.func183.trans (congrArg some (by kernel_rfl))
  f246:=Tryz.func189.trans (congrArg some (by kernel_rfl))
  f247:=Tryz.func182.trans (congrArg some (by kernel_rfl))
  f279:=Tryz.func199.trans (congrArg some (by kernel_rfl))
  f280:=Tryz.func200.trans (congrArg some (by kernel_rfl))
  f281:=Tryz.func201.trans (congrArg some (by kernel_rfl))
  f282:=Tryz.func202.trans (congrArg some (by kernel_rfl))
  f283:=Tryz.func203.trans (congrArg some (by kernel_rfl))
  f284:=Tryz.func204.trans (congrArg some (by kernel_rfl))
  f285:=Tryz.func205.trans (congrArg some (by kernel_rfl))
  f286:=Tryz.func206.trans (congrArg some (by kernel_rfl))
  f287:=Tryz.func190.trans (congrArg some (by kernel_rfl))
  f316:=Tryz.func211.trans (congrArg some (by kernel_rfl))
  f317:=Tryz.func213.trans (congrArg some (by kernel_rfl))
  f318:=Tryz.func215.trans (congrArg some (by kernel_rfl))
  f319:=Tryz.func216.trans (congrArg some (by kernel_rfl))
  f320:=Tryz.func217.trans (congrArg some (by kernel_rfl))
  f321:=Tryz.func207.trans (congrArg some (by kernel_rfl))
  f322:=Tryz.func208.trans (congrArg some (by kernel_rfl))
  f337:=Tryz.func218.trans (congrArg some (by kernel_rfl))
  f338:=Tryz.func219.trans (congrArg some (by kernel_rfl))
  t0:=Tryz.underlying0
  a0:=Tryz.isAgg0
  z0:=Tryz.sizeOf0
  v0:=Tryz.zeroValue0
  t2:=Tryz.underlying2
  a2:=Tryz.isAgg2
  z2:=Tryz.sizeOf2
  v2:=Tryz.zeroValue2
  t3:=Tryz.underlying3
  a3:=Tryz.isAgg3
  z3:=Tryz.sizeOf3
  v3:=Tryz.zeroValue3
  t4:=Tryz.underlying4
  a4:=Tryz.isAgg4
  z4:=Tryz.sizeOf4
  v4:=Tryz.zeroValue4
  t5:=Tryz.underlying5
  a5:=Tryz.isAgg5
  z5:=Tryz.sizeOf5
  v5:=Tryz.zeroValue5
  t9:=Tryz.underlying9
  a9:=Tryz.isAgg9
  z9:=Tryz.sizeOf9
  v9:=Tryz.zeroValue9
  t20:=Tryz.underlying20
  a20:=Tryz.isAgg20
  z20:=Tryz.sizeOf20
  v20:=Tryz.zeroValue20
  t21:=Tryz.underlying21
  a21:=Tryz.isAgg21
  z21:=Tryz.sizeOf21
  v21:=Tryz.zeroValue21
  t37:=Tryz.underlying196
  a37:=Tryz.isAgg196
  z37:=Tryz.sizeOf196
  v37:=Tryz.zeroValue196
  t46:=Tryz.underlying215
  a46:=Tryz.isAgg215
  z46:=Tryz.sizeOf215
  v46:=Tryz.zeroValue215
  t51:=Tryz.underlying229
  a51:=Tryz.isAgg229
  z51:=Tryz.sizeOf229
  v51:=Tryz.zeroValue229
  t53:=Tryz.underlying159
  a53:=Tryz.isAgg159
  z53:=Tryz.sizeOf159
  v53:=Tryz.zeroValue159
  t75:=Tryz.underlying176
  a75:=Tryz.isAgg176
  z75:=Tryz.sizeOf176
  v75:=Tryz.zeroValue176
  t76:=Tryz.underlying185
  a76:=Tryz.isAgg185
  z76:=Tryz.sizeOf185
  v76:=Tryz.zeroValue185
  t85:=Tryz.underlying177
  a85:=Tryz.isAgg177
  z85:=Tryz.sizeOf177
  v85:=Tryz.zeroValue177
  t127:=Tryz.underlying212
  a127:=Tryz.isAgg212
  z127:=Tryz.sizeOf212
  v127:=Tryz.zeroValue212
  t143:=Tryz.underlying240
  a143:=Tryz.isAgg240
  z143:=Tryz.sizeOf240
  v143:=Tryz.zeroValue240
  t145:=Tryz.underlying242
  a145:=Tryz.isAgg242
  z145:=Tryz.sizeOf242
  v145:=Tryz.zeroValue242
  t167:=Tryz.underlying216
  a167:=Tryz.isAgg216
  z167:=Tryz.sizeOf216
  v167:=Tryz.zeroValue216
  t168:=Tryz.underlying217
  a168:=Tryz.isAgg217
  z168:=Tryz.sizeOf217
  v168:=Tryz.zeroValue217
  t171:=Tryz.underlying220
  a171:=Tryz.isAgg220
  z171:=Tryz.sizeOf220
  v171:=Tryz.zeroValue220
  t173:=Tryz.underlying223
  a173:=Tryz.isAgg223
  z173:=Tryz.sizeOf223
  v173:=Tryz.zeroValue223
  t175:=Tryz.underlying187
  a175:=Tryz.isAgg187
  z175:=Tryz.sizeOf187
  v175:=Tryz.zeroValue187
  t210:=Tryz.underlying234
  a210:=Tryz.isAgg234
  z210:=Tryz.sizeOf234
  v210:=Tryz.zeroValue234
  t212:=Tryz.underlying237
  a212:=Tryz.isAgg237
  z212:=Tryz.sizeOf237
  v212:=Tryz.zeroValue237
  t213:=Tryz.underlying238
  a213:=Tryz.isAgg238
  z213:=Tryz.sizeOf238
  t232:=Tryz.underlying244
  a232:=Tryz.isAgg244
  z232:=Tryz.sizeOf244
  v232:=Tryz.zeroValue244
  t233:=Tryz.underlying245
  a233:=Tryz.isAgg245
  z233:=Tryz.sizeOf245
  v233:=Tryz.zeroValue245
  g15:=by kernel_rfl
  g16:=by kernel_rfl
  g17:=by kernel_rfl
  g18:=by kernel_rfl
  g19:=by kernel_rfl }
open Go.RowKit in
theorem Tryz.strconv_Atoi (s : ByteArray) (n : Int) (hl : s.size ≤ 18) (h : Lib.atoi s.data.toList = some n) (w : World) :
    Calls Tryz.prog 161 #[.string s] w fun e w'=>e = .returned (.tuple #[.int .i64 n,.nilIface])∧∃ t,w'=Lib.bytesWorld w 5 t:=Any.strconv_Atoi Tryz.lays172 s n hl h w
def Tryz.lays283_ren:Go.Shelf.Ren:=⟨fun|283=>203|n=>n,fun|3=>3|9=>9|4=>4|n=>n,fun|n=>n⟩
theorem Tryz.lays283:Go.Proofs.Lays.n283 Tryz.prog Tryz.lays283_ren:={
  mixed:=by kernel_rfl
  f283:=Tryz.func203.trans (congrArg some (by kernel_rfl))
  t3:=Tryz.underlying3
  a3:=Tryz.isAgg3
  z3:=Tryz.sizeOf3
  v3:=Tryz.zeroValue3
  t4:=Tryz.underlying4
  a4:=Tryz.isAgg4
  z4:=Tryz.sizeOf4
  v4:=Tryz.zeroValue4
  t9:=Tryz.underlying9
  a9:=Tryz.isAgg9
  z9:=Tryz.sizeOf9
  v9:=Tryz.zeroValue9 }
open Go.Lib in
theorem Tryz.internal_strconv_small (i : Nat) (h : i < 100) (w : World) :
    Calls Tryz.prog 203 #[.int .i64 i] w fun e w'=>e = .returned (.string ⟨(Lib.decDigits i).toArray⟩)∧w'=w:=Any.internal_strconv_small Tryz.lays283 i h w
def Tryz.laysM284_ren:Go.Shelf.Ren:=⟨fun|284=>204|129=>214|317=>213|318=>215|n=>n,fun|53=>159|3=>3|212=>237|0=>0|4=>4|46=>215|5=>5|9=>9|n=>n,fun|17=>3|n=>n⟩
theorem Tryz.laysM284:Go.Proofs.LaysM.n284 Tryz.prog Tryz.laysM284_ren:={
  mixed:=by kernel_rfl
  f129:=Tryz.func214.trans (congrArg some (by kernel_rfl))
  f284:=Tryz.func204.trans (congrArg some (by kernel_rfl))
  f317:=Tryz.func213.trans (congrArg some (by kernel_rfl))
  f318:=Tryz.func215.trans (congrArg some (by kernel_rfl))
  t0:=Tryz.underlying0
  a0:=Tryz.isAgg0
  z0:=Tryz.sizeOf0
  v0:=Tryz.zeroValue0
  t3:=Tryz.underlying3
  a3:=Tryz.isAgg3
  z3:=Tryz.sizeOf3
  v3:=Tryz.zeroValue3
  t4:=Tryz.underlying4
  a4:=Tryz.isAgg4
  z4:=Tryz.sizeOf4
  v4:=Tryz.zeroValue4
  t5:=Tryz.underlying5
  a5:=Tryz.isAgg5
  z5:=Tryz.sizeOf5
  v5:=Tryz.zeroValue5
  t9:=Tryz.underlying9
  a9:=Tryz.isAgg9
  z9:=Tryz.sizeOf9
  v9:=Tryz.zeroValue9
  t46:=Tryz.underlying215
  a46:=Tryz.isAgg215
  z46:=Tryz.sizeOf215
  v46:=Tryz.zeroValue215
  t53:=Tryz.underlying159
  a53:=Tryz.isAgg159
  z53:=Tryz.sizeOf159
  v53:=Tryz.zeroValue159
  t212:=Tryz.underlying237
  a212:=Tryz.isAgg237
  z212:=Tryz.sizeOf237
  v212:=Tryz.zeroValue237
  g17:=by kernel_rfl
  i0:=by kernel_rfl
  i3:=by kernel_rfl
  i4:=by kernel_rfl
  i5:=by kernel_rfl
  i9:=by kernel_rfl
  i46:=by kernel_rfl
  i53:=by kernel_rfl
  i212:=by kernel_rfl
  m17:=by kernel_rfl }
open Go.Lib in
theorem Tryz.internal_strconv_numDigits (u : Nat) (h1 : 1 ≤ u) (h2 : u < 18446744073709551616) (w : World) (htab : Lib.TabIs Tryz.prog w "internal/strconv.uint64pow10" .u64 Lib.pow10Tab) :
    Calls Tryz.prog 204 #[.int .u64 u] w fun e w'=>e = .returned (.int .i64 (Lib.nDigits u))∧w'=w:=Any.internal_strconv_numDigits Tryz.laysM284 u h1 h2 w htab
def Tryz.lays285_ren:Go.Shelf.Ren:=⟨fun|285=>205|n=>n,fun|37=>196|53=>159|3=>3|4=>4|51=>229|9=>9|5=>5|0=>0|n=>n,fun|n=>n⟩
theorem Tryz.lays285:Go.Proofs.Lays.n285 Tryz.prog Tryz.lays285_ren:={
  mixed:=by kernel_rfl
  f285:=Tryz.func205.trans (congrArg some (by kernel_rfl))
  t0:=Tryz.underlying0
  a0:=Tryz.isAgg0
  z0:=Tryz.sizeOf0
  v0:=Tryz.zeroValue0
  t3:=Tryz.underlying3
  a3:=Tryz.isAgg3
  z3:=Tryz.sizeOf3
  v3:=Tryz.zeroValue3
  t4:=Tryz.underlying4
  a4:=Tryz.isAgg4
  z4:=Tryz.sizeOf4
  v4:=Tryz.zeroValue4
  t5:=Tryz.underlying5
  a5:=Tryz.isAgg5
  z5:=Tryz.sizeOf5
  v5:=Tryz.zeroValue5
  t9:=Tryz.underlying9
  a9:=Tryz.isAgg9
  z9:=Tryz.sizeOf9
  v9:=Tryz.zeroValue9
  t37:=Tryz.underlying196
  a37:=Tryz.isAgg196
  z37:=Tryz.sizeOf196
  v37:=Tryz.zeroValue196
  t51:=Tryz.underlying229
  a51:=Tryz.isAgg229
  z51:=Tryz.sizeOf229
  v51:=Tryz.zeroValue229
  t53:=Tryz.underlying159
  a53:=Tryz.isAgg159
  z53:=Tryz.sizeOf159
  v53:=Tryz.zeroValue159 }
open Go.RowKit Go.Sort Go.Lib in
theorem Tryz.internal_strconv_formatBase10 (blk off cap : Nat) (u : Nat) (d : Array UInt8) (w : World) (hH : Holds (fun (b : UInt8) => Value.int .u8 (b.toNat : Int)) w blk off d) (hu : u < 10 ^ d.size) (hu64 : u < 18446744073709551616) (hsz : d.size < 4611686018427387904) :
    Calls Tryz.prog 205 #[.slice (some ⟨blk,off,none⟩) d.size cap,.int .u64 u] w fun e w' =>
      e = .returned (.tuple #[])∧∃ (n v':Nat) (dk:Array UInt8),w'=(putRow (fun (b:UInt8)=>Value.int .u8 (b.toNat:Int)) w blk off dk).drewN n∧FmtInv d.size u 0 v' dk:=Any.internal_strconv_formatBase10 Tryz.lays285 blk off cap u d w hH hu hu64 hsz
def Tryz.laysM246_ren:Go.Shelf.Ren:=⟨fun|246=>189|283=>203|284=>204|285=>205|286=>206|129=>214|317=>213|318=>215|319=>216|320=>217|337=>218|338=>219|n=>n,fun|2=>2|3=>3|9=>9|4=>4|171=>220|0=>0|53=>159|37=>196|5=>5|173=>223|212=>237|51=>229|20=>20|213=>238|46=>215|232=>244|233=>245|n=>n,fun|17=>3|18=>4|19=>5|n=>n⟩
def Tryz.laysM243_ren:Go.Shelf.Ren:=⟨fun|243=>162|246=>189|283=>203|284=>204|285=>205|286=>206|129=>214|317=>213|318=>215|319=>216|320=>217|337=>218|338=>219|n=>n,fun|3=>3|9=>9|2=>2|4=>4|171=>220|0=>0|53=>159|37=>196|5=>5|173=>223|212=>237|51=>229|20=>20|213=>238|46=>215|232=>244|233=>245|n=>n,fun|17=>3|18=>4|19=>5|n=>n⟩
def Tryz.laysM171_ren:Go.Shelf.Ren:=⟨fun|171=>116|243=>162|246=>189|283=>203|284=>204|285=>205|286=>206|129=>214|317=>213|318=>215|319=>216|320=>217|337=>218|338=>219|n=>n,fun|3=>3|9=>9|2=>2|4=>4|171=>220|0=>0|53=>159|37=>196|5=>5|173=>223|212=>237|51=>229|20=>20|213=>238|46=>215|232=>244|233=>245|n=>n,fun|17=>3|18=>4|19=>5|n=>n⟩
theorem Tryz.laysM171:Go.Proofs.LaysM.n171 Tryz.prog Tryz.laysM171_ren:={
  mixed:=by kernel_rfl
  f129:=Tryz.func214.trans (congrArg some (by kernel_rfl))
  f171:=Tryz.func116.trans (congrArg some (by kernel_rfl))
  f243:=Tryz.func162.trans (congrArg some (by kernel_rfl))
  f246:=Tryz.func189.trans (congrArg some (by kernel_rfl))
  f283:=Tryz.func203.trans (congrArg some (by kernel_rfl))
  f284:=Tryz.func204.trans (congrArg some (by kernel_rfl))
  f285:=Tryz.func205.trans (congrArg some (by kernel_rfl))
  f286:=Tryz.func206.trans (congrArg some (by kernel_rfl))
  f317:=Tryz.func213.trans (congrArg some (by kernel_rfl))
  f318:=Tryz.func215.trans (congrArg some (by kernel_rfl))
  f319:=Tryz.func216.trans (congrArg some (by kernel_rfl))
  f320:=Tryz.func217.trans (congrArg some (by kernel_rfl))
  f337:=Tryz.func218.trans (congrArg some (by kernel_rfl))
  f338:=Tryz.func219.trans (congrArg some (by kernel_rfl))
  t0:=Tryz.underlying0
  a0:=Tryz.isAgg0
  z0:=Tryz.sizeOf0
  v0:=Tryz.zeroValue0
  t2:=Tryz.underlying2
  a2:=Tryz.isAgg2
  z2:=Tryz.sizeOf2
  v2:=Tryz.zeroValue2
  t3:=Tryz.underlying3
  a3:=Tryz.isAgg3
  z3:=Tryz.sizeOf3
  v3:=Tryz.zeroValue3
  t4:=Tryz.underlying4
  a4:=Tryz.isAgg4
  z4:=Tryz.sizeOf4
  v4:=Tryz.zeroValue4
  t5:=Tryz.underlying5
  a5:=Tryz.isAgg5
  z5:=Tryz.sizeOf5
  v5:=Tryz.zeroValue5
  t9:=Tryz.underlying9
  a9:=Tryz.isAgg9
  z9:=Tryz.sizeOf9
  v9:=Tryz.zeroValue9
  t20:=Tryz.underlying20
  a20:=Tryz.isAgg20
  z20:=Tryz.sizeOf20
  v20:=Tryz.zeroValue20
  t37:=Tryz.underlying196
  a37:=Tryz.isAgg196
  z37:=Tryz.sizeOf196
  v37:=Tryz.zeroValue196
  t46:=Tryz.underlying215
  a46:=Tryz.isAgg215
  z46:=Tryz.sizeOf215
  v46:=Tryz.zeroValue215
  t51:=Tryz.underlying229
  a51:=Tryz.isAgg229
  z51:=Tryz.sizeOf229
  v51:=Tryz.zeroValue229
  t53:=Tryz.underlying159
  a53:=Tryz.isAgg159
  z53:=Tryz.sizeOf159
  v53:=Tryz.zeroValue159
  t171:=Tryz.underlying220
  a171:=Tryz.isAgg220
  z171:=Tryz.sizeOf220
  v171:=Tryz.zeroValue220
  t173:=Tryz.underlying223
  a173:=Tryz.isAgg223
  z173:=Tryz.sizeOf223
  v173:=Tryz.zeroValue223
  t212:=Tryz.underlying237
  a212:=Tryz.isAgg237
  z212:=Tryz.sizeOf237
  v212:=Tryz.zeroValue237
  t213:=Tryz.underlying238
  a213:=Tryz.isAgg238
  z213:=Tryz.sizeOf238
  t232:=Tryz.underlying244
  a232:=Tryz.isAgg244
  z232:=Tryz.sizeOf244
  v232:=Tryz.zeroValue244
  t233:=Tryz.underlying245
  a233:=Tryz.isAgg245
  z233:=Tryz.sizeOf245
  v233:=Tryz.zeroValue245
  g17:=by kernel_rfl
  g18:=by kernel_rfl
  g19:=by kernel_rfl
  i0:=by kernel_rfl
  i2:=by kernel_rfl
  i3:=by kernel_rfl
  i4:=by kernel_rfl
  i5:=by kernel_rfl
  i9:=by kernel_rfl
  i20:=by kernel_rfl
  i37:=by kernel_rfl
  i46:=by kernel_rfl
  i51:=by kernel_rfl
  i53:=by kernel_rfl
  i171:=by kernel_rfl
  i173:=by kernel_rfl
  i212:=by kernel_rfl
  i232:=by kernel_rfl
  i233:=by kernel_rfl
  m17:=by kernel_rfl
  m18:=by kernel_rfl
  m19:=by kernel_rfl }
open Go.RowKit Go.Sort Go.Lib in
theorem Tryz.strconv_Itoa (n : Int) (h0 : -9223372036854775808 ≤ n) (h1 : n ≤ 9223372036854775807) (w : World) (htab : Lib.TabIs Tryz.prog w "internal/strconv.uint64pow10" .u64 Lib.pow10Tab) :
    Calls Tryz.prog 116 #[.int .i64 n] w fun e w'=>e = .returned (.string ⟨(Lib.itoa n).toArray⟩)∧∃ k os,w'=grow (w.drewN k) os:=Any.strconv_Itoa Tryz.laysM171 n h0 h1 w htab
def Tryz.laysC174_ren:Go.Shelf.Ren:=⟨fun|174=>150|247=>182|245=>183|287=>190|279=>199|280=>200|281=>201|282=>202|321=>207|322=>208|316=>211|171=>116|205=>212|243=>162|246=>189|283=>203|284=>204|285=>205|286=>206|129=>214|317=>213|318=>215|319=>216|320=>217|337=>218|338=>219|n=>n,fun|9=>9|3=>3|2=>2|75=>176|85=>177|4=>4|167=>216|5=>5|53=>159|175=>187|46=>215|168=>217|37=>196|0=>0|210=>234|21=>21|127=>212|145=>242|143=>240|171=>220|173=>223|212=>237|51=>229|20=>20|213=>238|232=>244|233=>245|80=>201|n=>n,fun|15=>1|16=>2|17=>3|18=>4|19=>5|n=>n⟩
theorem Tryz.laysC174:Go.Proofs.LaysC.n174 Tryz.prog Tryz.laysC174_ren:={
  mixed:=by kernel_rfl
  f129:=Tryz.func214.trans (congrArg some (by kernel_rfl))
  f171:=Tryz.func116.trans (congrArg some (by kernel_rfl))
  f174:=Tryz.func150.trans (congrArg some (by kernel_rfl))
  f205:=Tryz.func212.trans (congrArg some (by kernel_rfl))
  f243:=Tryz.func162.trans (congrArg some (by kernel_rfl))
  f245:=Tryz.func183.trans (congrArg some (by kernel_rfl))
  f246:=Tryz.func189.trans (congrArg some (by kernel_rfl))
  f247:=Tryz.func182.trans (congrArg some (by kernel_rfl))
  f279:=Tryz.func199.trans (congrArg some (by kernel_rfl))
  f280:=Tryz.func200.trans (congrArg some (by kernel_rfl))
  f281:=Tryz.func201.trans (congrArg some (by kernel_rfl))
  f282:=Tryz.func202.trans (congrArg some (by kernel_rfl))
  f283:=Tryz.func203.trans (congrArg some (by kernel_rfl))
  f284:=Tryz.func204.trans (congrArg some (by kernel_rfl))
  f285:=Tryz.func205.trans (congrArg some (by kernel_rfl))
  f286:=Tryz.func206.trans (congrArg some (by kernel_rfl))
  f287:=Tryz.func190.trans (congrArg some (by kernel_rfl))
  f316:=Tryz.func211.trans (congrArg some (by kernel_rfl))
  f317:=Tryz.func213.trans (congrArg some (by kernel_rfl))
  f318:=Tryz.func215.trans (congrArg some (by kernel_rfl))
  f319:=Tryz.func216.trans (congrArg some (by kernel_rfl))
  f320:=Tryz.func217.trans (congrArg some (by kernel_rfl))
  f321:=Tryz.func207.trans (congrArg some (by kernel_rfl))
  f322:=Tryz.func208.trans (congrArg some (by kernel_rfl))
  f337:=Tryz.func218.trans (congrArg some (by kernel_rfl))
  f338:=Tryz.func219.trans (congrArg some (by kernel_rfl))
  t0:=Tryz.underlying0
  a0:=Tryz.isAgg0
  z0:=Tryz.sizeOf0
  v0:=Tryz.zeroValue0
  t2:=Tryz.underlying2
  a2:=Tryz.isAgg2
  z2:=Tryz.sizeOf2
  v2:=Tryz.zeroValue2
  t3:=Tryz.underlying3
  a3:=Tryz.isAgg3
  z3:=Tryz.sizeOf3
  v3:=Tryz.zeroValue3
  t4:=Tryz.underlying4
  a4:=Tryz.isAgg4
  z4:=Tryz.sizeOf4
  v4:=Tryz.zeroValue4
  t5:=Tryz.underlying5
  a5:=Tryz.isAgg5
  z5:=Tryz.sizeOf5
  v5:=Tryz.zeroValue5
  t9:=Tryz.underlying9
  a9:=Tryz.isAgg9
  z9:=Tryz.sizeOf9
  v9:=Tryz.zeroValue9
  t20:=Tryz.underlying20
  a20:=Tryz.isAgg20
  z20:=Tryz.sizeOf20
  v20:=Tryz.zeroValue20
  t21:=Tryz.underlying21
  a21:=Tryz.isAgg21
  z21:=Tryz.sizeOf21
  v21:=Tryz.zeroValue21
  t37:=Tryz.underlying196
  a37:=Tryz.isAgg196
  z37:=Tryz.sizeOf196
  v37:=Tryz.zeroValue196
  t46:=Tryz.underlying215
  a46:=Tryz.isAgg215
  z46:=Tryz.sizeOf215
  v46:=Tryz.zeroValue215
  t51:=Tryz.underlying229
  a51:=Tryz.isAgg229
  z51:=Tryz.sizeOf229
  v51:=Tryz.zeroValue229
  t53:=Tryz.underlying159
  a53:=Tryz.isAgg159
  z53:=Tryz.sizeOf159
  v53:=Tryz.zeroValue159
  t75:=Tryz.underlying176
  a75:=Tryz.isAgg176
  z75:=Tryz.sizeOf176
  v75:=Tryz.zeroValue176
  t85:=Tryz.underlying177
  a85:=Tryz.isAgg177
  z85:=Tryz.sizeOf177
  v85:=Tryz.zeroValue177
  t127:=Tryz.underlying212
  a127:=Tryz.isAgg212
  z127:=Tryz.sizeOf212
  v127:=Tryz.zeroValue212
  t143:=Tryz.underlying240
  a143:=Tryz.isAgg240
  z143:=Tryz.sizeOf240
  v143:=Tryz.zeroValue240
  t145:=Tryz.underlying242
  a145:=Tryz.isAgg242
  z145:=Tryz.sizeOf242
  v145:=Tryz.zeroValue242
  t167:=Tryz.underlying216
  a167:=Tryz.isAgg216
  z167:=Tryz.sizeOf216
  v167:=Tryz.zeroValue216
  t168:=Tryz.underlying217
  a168:=Tryz.isAgg217
  z168:=Tryz.sizeOf217
  v168:=Tryz.zeroValue217
  t171:=Tryz.underlying220
  a171:=Tryz.isAgg220
  z171:=Tryz.sizeOf220
  v171:=Tryz.zeroValue220
  t173:=Tryz.underlying223
  a173:=Tryz.isAgg223
  z173:=Tryz.sizeOf223
  v173:=Tryz.zeroValue223
  t175:=Tryz.underlying187
  a175:=Tryz.isAgg187
  z175:=Tryz.sizeOf187
  v175:=Tryz.zeroValue187
  t210:=Tryz.underlying234
  a210:=Tryz.isAgg234
  z210:=Tryz.sizeOf234
  v210:=Tryz.zeroValue234
  t212:=Tryz.underlying237
  a212:=Tryz.isAgg237
  z212:=Tryz.sizeOf237
  v212:=Tryz.zeroValue237
  t213:=Tryz.underlying238
  a213:=Tryz.isAgg238
  z213:=Tryz.sizeOf238
  t232:=Tryz.underlying244
  a232:=Tryz.isAgg244
  z232:=Tryz.sizeOf244
  v232:=Tryz.zeroValue244
  t233:=Tryz.underlying245
  a233:=Tryz.isAgg245
  z233:=Tryz.sizeOf245
  v233:=Tryz.zeroValue245
  g15:=by kernel_rfl
  g16:=by kernel_rfl
  g17:=by kernel_rfl
  g18:=by kernel_rfl
  g19:=by kernel_rfl
  t80:=Tryz.underlying201
  a80:=Tryz.isAgg201
  z80:=Tryz.sizeOf201
  v80:=Tryz.zeroValue201
  i0:=by kernel_rfl
  i2:=by kernel_rfl
  i3:=by kernel_rfl
  i4:=by kernel_rfl
  i5:=by kernel_rfl
  i9:=by kernel_rfl
  i20:=by kernel_rfl
  i21:=by kernel_rfl
  i37:=by kernel_rfl
  i46:=by kernel_rfl
  i51:=by kernel_rfl
  i53:=by kernel_rfl
  i75:=by kernel_rfl
  i80:=by kernel_rfl
  i85:=by kernel_rfl
  i127:=by kernel_rfl
  i143:=by kernel_rfl
  i145:=by kernel_rfl
  i167:=by kernel_rfl
  i168:=by kernel_rfl
  i171:=by kernel_rfl
  i173:=by kernel_rfl
  i175:=by kernel_rfl
  i210:=by kernel_rfl
  i212:=by kernel_rfl
  i232:=by kernel_rfl
  i233:=by kernel_rfl
  m15:=by kernel_rfl
  m16:=by kernel_rfl
  m17:=by kernel_rfl
  m18:=by kernel_rfl
  m19:=by kernel_rfl
  c0:=by kernel_rfl
  c2:=by kernel_rfl
  c3:=by kernel_rfl
  c4:=by kernel_rfl
  c5:=by kernel_rfl
  c9:=by kernel_rfl
  c20:=by kernel_rfl
  c21:=by kernel_rfl
  c37:=by kernel_rfl
  c46:=by kernel_rfl
  c51:=by kernel_rfl
  c53:=by kernel_rfl
  c75:=by kernel_rfl
  c80:=by kernel_rfl
  c85:=by kernel_rfl
  c127:=by kernel_rfl
  c143:=by kernel_rfl
  c145:=by kernel_rfl
  c167:=by kernel_rfl
  c168:=by kernel_rfl
  c171:=by kernel_rfl
  c173:=by kernel_rfl
  c175:=by kernel_rfl
  c210:=by kernel_rfl
  c212:=by kernel_rfl
  c213:=by kernel_rfl
  c232:=by kernel_rfl
  c233:=by kernel_rfl }
open Go.RowKit in
theorem Tryz.strconv_ParseInt_10_at64_ok (s : ByteArray) (hmax : s.size ≤ 9223372036854775806) (v : Int) (h : Lib.parseIntB 64 s.data.toList = .ok v) (w : World) :
    Calls Tryz.prog 150 #[.string s,.int .i64 10,.int .i64 64] w fun e w'=>e = .returned (.tuple #[.int .i64 v,.nilIface])∧(w'=w∨∃ t,w'=Lib.bytesWorld w 5 t):=Any.strconv_ParseInt_10_at64_ok Tryz.laysC174 s hmax v h w
def Tryz.laysPu14_ren:Go.Shelf.Ren:=⟨fun|14=>163|16=>190|17=>183|19=>207|20=>208|21=>199|22=>200|23=>201|24=>202|25=>211|27=>116|26=>212|28=>162|29=>189|30=>203|31=>204|32=>205|33=>206|35=>214|34=>213|36=>215|37=>216|38=>217|39=>218|40=>219|n=>n,fun|9=>9|3=>3|22=>159|24=>176|25=>187|4=>4|34=>216|5=>5|36=>215|37=>196|0=>0|39=>217|21=>21|44=>234|47=>212|50=>242|48=>240|2=>2|52=>220|55=>223|59=>237|60=>229|20=>20|61=>238|65=>244|66=>245|67=>201|n=>n,fun|0=>1|1=>2|2=>3|3=>4|4=>5|n=>n⟩
theorem Tryz.laysPu14:Go.Proofs.LaysPu.n14 Tryz.prog Tryz.laysPu14_ren:={
  mixed:=by kernel_rfl
  f14:=Tryz.func163.trans (congrArg some (by kernel_rfl))
  f16:=Tryz.func190.trans (congrArg some (by kernel_rfl))
  f17:=Tryz.func183.trans (congrArg some (by kernel_rfl))
  f19:=Tryz.func207.trans (congrArg some (by kernel_rfl))
  f20:=Tryz.func208.trans (congrArg some (by kernel_rfl))
  f21:=Tryz.func199.trans (congrArg some (by kernel_rfl))
  f22:=Tryz.func200.trans (congrArg some (by kernel_rfl))
  f23:=Tryz.func201.trans (congrArg some (by kernel_rfl))
  f24:=Tryz.func202.trans (congrArg some (by kernel_rfl))
  f25:=Tryz.func211.trans (congrArg some (by kernel_rfl))
  f26:=Tryz.func212.trans (congrArg some (by kernel_rfl))
  f27:=Tryz.func116.trans (congrArg some (by kernel_rfl))
  f28:=Tryz.func162.trans (congrArg some (by kernel_rfl))
  f29:=Tryz.func189.trans (congrArg some (by kernel_rfl))
  f30:=Tryz.func203.trans (congrArg some (by kernel_rfl))
  f31:=Tryz.func204.trans (congrArg some (by kernel_rfl))
  f32:=Tryz.func205.trans (congrArg some (by kernel_rfl))
  f33:=Tryz.func206.trans (congrArg some (by kernel_rfl))
  f34:=Tryz.func213.trans (congrArg some (by kernel_rfl))
  f35:=Tryz.func214.trans (congrArg some (by kernel_rfl))
  f36:=Tryz.func215.trans (congrArg some (by kernel_rfl))
  f37:=Tryz.func216.trans (congrArg some (by kernel_rfl))
  f38:=Tryz.func217.trans (congrArg some (by kernel_rfl))
  f39:=Tryz.func218.trans (congrArg some (by kernel_rfl))
  f40:=Tryz.func219.trans (congrArg some (by kernel_rfl))
  t0:=Tryz.underlying0
  a0:=Tryz.isAgg0
  z0:=Tryz.sizeOf0
  v0:=Tryz.zeroValue0
  i0:=by kernel_rfl
  t2:=Tryz.underlying2
  a2:=Tryz.isAgg2
  z2:=Tryz.sizeOf2
  v2:=Tryz.zeroValue2
  i2:=by kernel_rfl
  t3:=Tryz.underlying3
  a3:=Tryz.isAgg3
  z3:=Tryz.sizeOf3
  v3:=Tryz.zeroValue3
  i3:=by kernel_rfl
  t4:=Tryz.underlying4
  a4:=Tryz.isAgg4
  z4:=Tryz.sizeOf4
  v4:=Tryz.zeroValue4
  i4:=by kernel_rfl
  t5:=Tryz.underlying5
  a5:=Tryz.isAgg5
  z5:=Tryz.sizeOf5
  v5:=Tryz.zeroValue5
  i5:=by kernel_rfl
  t9:=Tryz.underlying9
  a9:=Tryz.isAgg9
  z9:=Tryz.sizeOf9
  v9:=Tryz.zeroValue9
  i9:=by kernel_rfl
  t20:=Tryz.underlying20
  a20:=Tryz.isAgg20
  z20:=Tryz.sizeOf20
  v20:=Tryz.zeroValue20
  i20:=by kernel_rfl
  t21:=Tryz.underlying21
  a21:=Tryz.isAgg21
  z21:=Tryz.sizeOf21
  v21:=Tryz.zeroValue21
  i21:=by kernel_rfl
  t22:=Tryz.underlying159
  a22:=Tryz.isAgg159
  z22:=Tryz.sizeOf159
  v22:=Tryz.zeroValue159
  i22:=by kernel_rfl
  t24:=Tryz.underlying176
  a24:=Tryz.isAgg176
  z24:=Tryz.sizeOf176
  v24:=Tryz.zeroValue176
  i24:=by kernel_rfl
  t25:=Tryz.underlying187
  a25:=Tryz.isAgg187
  z25:=Tryz.sizeOf187
  v25:=Tryz.zeroValue187
  i25:=by kernel_rfl
  t34:=Tryz.underlying216
  a34:=Tryz.isAgg216
  z34:=Tryz.sizeOf216
  v34:=Tryz.zeroValue216
  i34:=by kernel_rfl
  c34:=by kernel_rfl
  t36:=Tryz.underlying215
  a36:=Tryz.isAgg215
  z36:=Tryz.sizeOf215
  v36:=Tryz.zeroValue215
  i36:=by kernel_rfl
  t37:=Tryz.underlying196
  a37:=Tryz.isAgg196
  z37:=Tryz.sizeOf196
  v37:=Tryz.zeroValue196
  i37:=by kernel_rfl
  t39:=Tryz.underlying217
  a39:=Tryz.isAgg217
  z39:=Tryz.sizeOf217
  v39:=Tryz.zeroValue217
  i39:=by kernel_rfl
  t44:=Tryz.underlying234
  a44:=Tryz.isAgg234
  z44:=Tryz.sizeOf234
  v44:=Tryz.zeroValue234
  i44:=by kernel_rfl
  t47:=Tryz.underlying212
  a47:=Tryz.isAgg212
  z47:=Tryz.sizeOf212
  v47:=Tryz.zeroValue212
  i47:=by kernel_rfl
  t48:=Tryz.underlying240
  a48:=Tryz.isAgg240
  z48:=Tryz.sizeOf240
  v48:=Tryz.zeroValue240
  i48:=by kernel_rfl
  t50:=Tryz.underlying242
  a50:=Tryz.isAgg242
  z50:=Tryz.sizeOf242
  v50:=Tryz.zeroValue242
  i50:=by kernel_rfl
  t52:=Tryz.underlying220
  a52:=Tryz.isAgg220
  z52:=Tryz.sizeOf220
  v52:=Tryz.zeroValue220
  i52:=by kernel_rfl
  t55:=Tryz.underlying223
  a55:=Tryz.isAgg223
  z55:=Tryz.sizeOf223
  v55:=Tryz.zeroValue223
  i55:=by kernel_rfl
  t59:=Tryz.underlying237
  a59:=Tryz.isAgg237
  z59:=Tryz.sizeOf237
  v59:=Tryz.zeroValue237
  i59:=by kernel_rfl
  t60:=Tryz.underlying229
  a60:=Tryz.isAgg229
  z60:=Tryz.sizeOf229
  v60:=Tryz.zeroValue229
  i60:=by kernel_rfl
  t61:=Tryz.underlying238
  a61:=Tryz.isAgg238
  z61:=Tryz.sizeOf238
  t65:=Tryz.underlying244
  a65:=Tryz.isAgg244
  z65:=Tryz.sizeOf244
  v65:=Tryz.zeroValue244
  i65:=by kernel_rfl
  t66:=Tryz.underlying245
  a66:=Tryz.isAgg245
  z66:=Tryz.sizeOf245
  v66:=Tryz.zeroValue245
  i66:=by kernel_rfl
  t67:=Tryz.underlying201
  a67:=Tryz.isAgg201
  z67:=Tryz.sizeOf201
  v67:=Tryz.zeroValue201
  i67:=by kernel_rfl
  g0:=by kernel_rfl
  m0:=by kernel_rfl
  g1:=by kernel_rfl
  m1:=by kernel_rfl
  g2:=by kernel_rfl
  m2:=by kernel_rfl
  g3:=by kernel_rfl
  m3:=by kernel_rfl
  g4:=by kernel_rfl
  m4:=by kernel_rfl }
open Go.RowKit in
theorem Tryz.strconv_ParseUint_10_at64_ok (s : ByteArray) (hmax : s.size ≤ 9223372036854775806) (u : Nat) (h : Lib.parseUintB 64 s.data.toList = .ok u) (w : World) :
    Calls Tryz.prog 163 #[.string s,.int .i64 10,.int .i64 64] w fun e w'=>e = .returned (.tuple #[.int .u64 u,.nilIface])∧(w'=w∨w'=Lib.bytesWorld w 5 s):=Any.strconv_ParseUint_10_at64_ok Tryz.laysPu14 s hmax u h w
def Tryz.lays219_ren:Go.Shelf.Ren:=⟨fun|219=>177|217=>106|225=>195|224=>196|267=>197|266=>152|314=>210|n=>n,fun|9=>9|3=>3|4=>4|5=>5|46=>215|146=>230|51=>229|n=>n,fun|1=>0|n=>n⟩
theorem Tryz.lays219:Go.Proofs.Lays.n219 Tryz.prog Tryz.lays219_ren:={
  mixed:=by kernel_rfl
  f217:=Tryz.func106.trans (congrArg some (by kernel_rfl))
  f219:=Tryz.func177.trans (congrArg some (by kernel_rfl))
  f224:=Tryz.func196.trans (congrArg some (by kernel_rfl))
  f225:=Tryz.func195.trans (congrArg some (by kernel_rfl))
  f266:=Tryz.func152.trans (congrArg some (by kernel_rfl))
  f267:=Tryz.func197.trans (congrArg some (by kernel_rfl))
  f314:=Tryz.func210.trans (congrArg some (by kernel_rfl))
  t3:=Tryz.underlying3
  a3:=Tryz.isAgg3
  z3:=Tryz.sizeOf3
  v3:=Tryz.zeroValue3
  t4:=Tryz.underlying4
  a4:=Tryz.isAgg4
  z4:=Tryz.sizeOf4
  v4:=Tryz.zeroValue4
  t5:=Tryz.underlying5
  a5:=Tryz.isAgg5
  z5:=Tryz.sizeOf5
  v5:=Tryz.zeroValue5
  t9:=Tryz.underlying9
  a9:=Tryz.isAgg9
  z9:=Tryz.sizeOf9
  v9:=Tryz.zeroValue9
  t46:=Tryz.underlying215
  a46:=Tryz.isAgg215
  z46:=Tryz.sizeOf215
  v46:=Tryz.zeroValue215
  t51:=Tryz.underlying229
  a51:=Tryz.isAgg229
  z51:=Tryz.sizeOf229
  v51:=Tryz.zeroValue229
  t146:=Tryz.underlying230
  a146:=Tryz.isAgg230
  z146:=Tryz.sizeOf230
  v146:=Tryz.zeroValue230
  g1:=by kernel_rfl }
open Go.RowKit Go.Lib in
theorem Tryz.stringslite_Index_one (s : ByteArray) (c : UInt8) (w : World) :
    Calls Tryz.prog 177 #[.string s,.string ⟨#[c]⟩] w fun e w'=>e = .returned (.int .i64 (Lib.indexByte s.data.toList c))∧w'=w:=Any.stringslite_Index_one Tryz.lays219 s c w
def Tryz.lays145_ren:Go.Shelf.Ren:=⟨fun|145=>95|220=>145|219=>177|217=>106|225=>195|224=>196|267=>197|266=>152|314=>210|n=>n,fun|9=>9|4=>4|59=>131|3=>3|5=>5|46=>215|146=>230|51=>229|n=>n,fun|1=>0|n=>n⟩
theorem Tryz.lays145:Go.Proofs.Lays.n145 Tryz.prog Tryz.lays145_ren:={
  mixed:=by kernel_rfl
  f145:=Tryz.func95.trans (congrArg some (by kernel_rfl))
  f217:=Tryz.func106.trans (congrArg some (by kernel_rfl))
  f219:=Tryz.func177.trans (congrArg some (by kernel_rfl))
  f220:=Tryz.func145.trans (congrArg some (by kernel_rfl))
  f224:=Tryz.func196.trans (congrArg some (by kernel_rfl))
  f225:=Tryz.func195.trans (congrArg some (by kernel_rfl))
  f266:=Tryz.func152.trans (congrArg some (by kernel_rfl))
  f267:=Tryz.func197.trans (congrArg some (by kernel_rfl))
  f314:=Tryz.func210.trans (congrArg some (by kernel_rfl))
  t3:=Tryz.underlying3
  a3:=Tryz.isAgg3
  z3:=Tryz.sizeOf3
  v3:=Tryz.zeroValue3
  t4:=Tryz.underlying4
  a4:=Tryz.isAgg4
  z4:=Tryz.sizeOf4
  v4:=Tryz.zeroValue4
  t5:=Tryz.underlying5
  a5:=Tryz.isAgg5
  z5:=Tryz.sizeOf5
  v5:=Tryz.zeroValue5
  t9:=Tryz.underlying9
  a9:=Tryz.isAgg9
  z9:=Tryz.sizeOf9
  v9:=Tryz.zeroValue9
  t46:=Tryz.underlying215
  a46:=Tryz.isAgg215
  z46:=Tryz.sizeOf215
  v46:=Tryz.zeroValue215
  t51:=Tryz.underlying229
  a51:=Tryz.isAgg229
  z51:=Tryz.sizeOf229
  v51:=Tryz.zeroValue229
  t59:=Tryz.underlying131
  a59:=Tryz.isAgg131
  z59:=Tryz.sizeOf131
  v59:=Tryz.zeroValue131
  t146:=Tryz.underlying230
  a146:=Tryz.isAgg230
  z146:=Tryz.sizeOf230
  v146:=Tryz.zeroValue230
  g1:=by kernel_rfl }
open Go.RowKit Go.Lib in
theorem Tryz.strings_Cut (s sep : ByteArray) (m : Int) (w : World) (hs : s.size < 4294967281) (hm : w.cell? ⟨0, 0, none⟩ = some (.int .i64 m)) :
    Calls Tryz.prog 95 #[.string s,.string sep] w fun e w'=>e = .returned (.tuple #[.string ⟨(Lib.cut s.data.toList sep.data.toList).1.toArray⟩,.string ⟨(Lib.cut s.data.toList sep.data.toList).2.1.toArray⟩,.bool (Lib.cut s.data.toList sep.data.toList).2.2])∧∃ n,w'=w.drewN n:=Any.strings_Cut Tryz.lays145 s sep m w hs hm
def Tryz.lays99_ren:Go.Shelf.Ren:=⟨fun|99=>149|206=>181|n=>n,fun|9=>9|4=>4|3=>3|n=>n,fun|n=>n⟩
theorem Tryz.lays99:Go.Proofs.Lays.n99 Tryz.prog Tryz.lays99_ren:={
  mixed:=by kernel_rfl
  f99:=Tryz.func149.trans (congrArg some (by kernel_rfl))
  f206:=Tryz.func181.trans (congrArg some (by kernel_rfl))
  t3:=Tryz.underlying3
  a3:=Tryz.isAgg3
  z3:=Tryz.sizeOf3
  v3:=Tryz.zeroValue3
  t4:=Tryz.underlying4
  a4:=Tryz.isAgg4
  z4:=Tryz.sizeOf4
  v4:=Tryz.zeroValue4
  t9:=Tryz.underlying9
  a9:=Tryz.isAgg9
  z9:=Tryz.sizeOf9
  v9:=Tryz.zeroValue9 }
open Go.RowKit Go.Lib in
theorem Tryz.strings_HasPrefix (s p : ByteArray) (w : World) :
    Calls Tryz.prog 149 #[.string s,.string p] w fun e w'=>e = .returned (.bool (Lib.hasPrefix s.data.toList p.data.toList))∧w'=w:=Any.strings_HasPrefix Tryz.lays99 s p w
def Tryz.lays101_ren:Go.Shelf.Ren:=⟨fun|101=>147|208=>179|206=>181|n=>n,fun|9=>9|4=>4|3=>3|n=>n,fun|n=>n⟩
theorem Tryz.lays101:Go.Proofs.Lays.n101 Tryz.prog Tryz.lays101_ren:={
  mixed:=by kernel_rfl
  f101:=Tryz.func147.trans (congrArg some (by kernel_rfl))
  f206:=Tryz.func181.trans (congrArg some (by kernel_rfl))
  f208:=Tryz.func179.trans (congrArg some (by kernel_rfl))
  t3:=Tryz.underlying3
  a3:=Tryz.isAgg3
  z3:=Tryz.sizeOf3
  v3:=Tryz.zeroValue3
  t4:=Tryz.underlying4
  a4:=Tryz.isAgg4
  z4:=Tryz.sizeOf4
  v4:=Tryz.zeroValue4
  t9:=Tryz.underlying9
  a9:=Tryz.isAgg9
  z9:=Tryz.sizeOf9
  v9:=Tryz.zeroValue9 }
open Go.RowKit Go.Lib in
theorem Tryz.strings_TrimPrefix (s p : ByteArray) (w : World) :
    Calls Tryz.prog 147 #[.string s,.string p] w fun e w'=>e = .returned (.string ⟨(Lib.trimPrefix s.data.toList p.data.toList).toArray⟩)∧w'=w:=Any.strings_TrimPrefix Tryz.lays101 s p w
end Go.Proofs
