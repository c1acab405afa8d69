/- Part 56 of the proof: Shelf. -/
import Derived.Test.YtplimbgaoengfaaGreatDoorQB4
import Derived.Shelf.Strings.Builder1
import Derived.Shelf.Small.Strs
import Derived.Shelf.Small.Wraps
import Derived.Shelf.Strings.BuilderF
import Derived.Shelf.Strings.BuilderK
import Derived.Shelf.Strconv.Atoi
import Derived.Shelf.Strconv.Itoa0
import Derived.Shelf.Strconv.Itoa1
import Derived.Shelf.LaysM
import Derived.Shelf.Strconv.Itoa2
import Derived.Shelf.Strconv.Itoa3
import Derived.Shelf.Strconv.AtoiErrFast
import Derived.Shelf.Strconv.ParseIntEmpty
import Derived.Shelf.Strconv.AtoiFail
import Derived.Shelf.Strconv.Clone
import Derived.Shelf.Strconv.SyntaxError
import Derived.Shelf.LaysC
import Derived.Shelf.Strconv.ToError
import Derived.Shelf.Strconv.Lower
import Derived.Shelf.Strconv.ParseUint10
import Derived.Shelf.Strconv.ParseUint10Empty
import Derived.Shelf.Strconv.ParseUint10Any
import Derived.Shelf.Strconv.ParseInt10
import Derived.Shelf.Strconv.AtoiLong
import Derived.Shelf.Strconv.AtoiInnerAll
import Derived.Shelf.Strconv.RangeError
import Derived.Shelf.Strconv.ToErrorRange
import Derived.Shelf.Strconv.AtoiAll
import Derived.Shelf.Strconv.ErrVarAll
import Derived.Shelf.Strconv.ParseUintEmpty
import Derived.Shelf.Strconv.ParseUint10b64
import Derived.Shelf.Strconv.ParseUint10b32
import Derived.Shelf.Strconv.ParseUint10b16
import Derived.Shelf.Strconv.ParseUint10b8
import Derived.Shelf.Strconv.ParseUint10At
import Derived.Shelf.Strconv.ParseInt10At64
import Derived.Shelf.Strconv.ParseInt10At32
import Derived.Shelf.Strconv.ParseInt10At16
import Derived.Shelf.Strconv.ParseInt10At8
import Derived.Shelf.Strconv.ParseInt10All
import Derived.Shelf.Strconv.ParseIntPublic10
import Derived.Ground.MpProg
import Derived.Shelf.Pu.ParseUintPublic10
import Derived.Shelf.Pu.ErrVarParseUint
import Derived.Shelf.Strings.Search1
import Derived.Shelf.Strings.Search2
import Derived.Shelf.Strings.Cut
import Derived.Shelf.Strings.Shaped
import Derived.Shelf.Strings.Prefix
import Derived.Test.YtplimbgaoengfaaGreatDoorProg
namespace Go.Proofs
open Go.Shelf
def Tryz.laysC174_ren : Go.Shelf.Ren := ⟨fun | 174 => 126 | 247 => 146 | 245 => 132 | 287 => 134 | 279 => 154 | 280 => 155 | 281 => 156 | 282 => 157 | 321 => 158 | 322 => 159 | 316 => 176 | 171 => 73 | 205 => 177 | 243 => 103 | 246 => 127 | 283 => 147 | 284 => 148 | 285 => 149 | 286 => 150 | 129 => 171 | 317 => 170 | 318 => 172 | 319 => 173 | 320 => 174 | 337 => 183 | 338 => 184 | n => n, fun | 9 => 9 | 3 => 3 | 2 => 2 | 75 => 138 | 85 => 160 | 4 => 4 | 167 => 177 | 5 => 5 | 53 => 136 | 175 => 143 | 46 => 176 | 168 => 178 | 37 => 147 | 0 => 0 | 210 => 201 | 21 => 21 | 127 => 166 | 145 => 209 | 143 => 207 | 171 => 170 | 173 => 173 | 212 => 192 | 51 => 193 | 20 => 20 | 213 => 194 | 232 => 210 | 233 => 211 | 80 => 155 | n => n, fun | 15 => 2 | 16 => 3 | 17 => 1 | 18 => 4 | 19 => 5 | n => n⟩
theorem Tryz.laysC174 : Go.Proofs.LaysC.n174 Tryz.prog Tryz.laysC174_ren := {
  mixed := by kernel_rfl
  f129 := Tryz.func171.trans (congrArg some (by kernel_rfl))
  f171 := Tryz.func73.trans (congrArg some (by kernel_rfl))
  f174 := Tryz.func126.trans (congrArg some (by kernel_rfl))
  f205 := Tryz.func177.trans (congrArg some (by kernel_rfl))
  f243 := Tryz.func103.trans (congrArg some (by kernel_rfl))
  f245 := Tryz.func132.trans (congrArg some (by kernel_rfl))
  f246 := Tryz.func127.trans (congrArg some (by kernel_rfl))
  f247 := Tryz.func146.trans (congrArg some (by kernel_rfl))
  f279 := Tryz.func154.trans (congrArg some (by kernel_rfl))
  f280 := Tryz.func155.trans (congrArg some (by kernel_rfl))
  f281 := Tryz.func156.trans (congrArg some (by kernel_rfl))
  f282 := Tryz.func157.trans (congrArg some (by kernel_rfl))
  f283 := Tryz.func147.trans (congrArg some (by kernel_rfl))
  f284 := Tryz.func148.trans (congrArg some (by kernel_rfl))
  f285 := Tryz.func149.trans (congrArg some (by kernel_rfl))
  f286 := Tryz.func150.trans (congrArg some (by kernel_rfl))
  f287 := Tryz.func134.trans (congrArg some (by kernel_rfl))
  f316 := Tryz.func176.trans (congrArg some (by kernel_rfl))
  f317 := Tryz.func170.trans (congrArg some (by kernel_rfl))
  f318 := Tryz.func172.trans (congrArg some (by kernel_rfl))
  f319 := Tryz.func173.trans (congrArg some (by kernel_rfl))
  f320 := Tryz.func174.trans (congrArg some (by kernel_rfl))
  f321 := Tryz.func158.trans (congrArg some (by kernel_rfl))
  f322 := Tryz.func159.trans (congrArg some (by kernel_rfl))
  f337 := Tryz.func183.trans (congrArg some (by kernel_rfl))
  f338 := Tryz.func184.trans (congrArg some (by kernel_rfl))
  t0 := Tryz.underlying0
  a0 := Tryz.isAgg0
  z0 := Tryz.sizeOf0
  v0 := Tryz.zeroValue0
  t2 := Tryz.underlying2
  a2 := Tryz.isAgg2
  z2 := Tryz.sizeOf2
  v2 := Tryz.zeroValue2
  t3 := Tryz.underlying3
  a3 := Tryz.isAgg3
  z3 := Tryz.sizeOf3
  v3 := Tryz.zeroValue3
  t4 := Tryz.underlying4
  a4 := Tryz.isAgg4
  z4 := Tryz.sizeOf4
  v4 := Tryz.zeroValue4
  t5 := Tryz.underlying5
  a5 := Tryz.isAgg5
  z5 := Tryz.sizeOf5
  v5 := Tryz.zeroValue5
  t9 := Tryz.underlying9
  a9 := Tryz.isAgg9
  z9 := Tryz.sizeOf9
  v9 := Tryz.zeroValue9
  t20 := Tryz.underlying20
  a20 := Tryz.isAgg20
  z20 := Tryz.sizeOf20
  v20 := Tryz.zeroValue20
  t21 := Tryz.underlying21
  a21 := Tryz.isAgg21
  z21 := Tryz.sizeOf21
  v21 := Tryz.zeroValue21
  t37 := Tryz.underlying147
  a37 := Tryz.isAgg147
  z37 := Tryz.sizeOf147
  v37 := Tryz.zeroValue147
  t46 := Tryz.underlying176
  a46 := Tryz.isAgg176
  z46 := Tryz.sizeOf176
  v46 := Tryz.zeroValue176
  t51 := Tryz.underlying193
  a51 := Tryz.isAgg193
  z51 := Tryz.sizeOf193
  v51 := Tryz.zeroValue193
  t53 := Tryz.underlying136
  a53 := Tryz.isAgg136
  z53 := Tryz.sizeOf136
  v53 := Tryz.zeroValue136
  t75 := Tryz.underlying138
  a75 := Tryz.isAgg138
  z75 := Tryz.sizeOf138
  v75 := Tryz.zeroValue138
  t85 := Tryz.underlying160
  a85 := Tryz.isAgg160
  z85 := Tryz.sizeOf160
  v85 := Tryz.zeroValue160
  t127 := Tryz.underlying166
  a127 := Tryz.isAgg166
  z127 := Tryz.sizeOf166
  v127 := Tryz.zeroValue166
  t143 := Tryz.underlying207
  a143 := Tryz.isAgg207
  z143 := Tryz.sizeOf207
  v143 := Tryz.zeroValue207
  t145 := Tryz.underlying209
  a145 := Tryz.isAgg209
  z145 := Tryz.sizeOf209
  v145 := Tryz.zeroValue209
  t167 := Tryz.underlying177
  a167 := Tryz.isAgg177
  z167 := Tryz.sizeOf177
  v167 := Tryz.zeroValue177
  t168 := Tryz.underlying178
  a168 := Tryz.isAgg178
  z168 := Tryz.sizeOf178
  v168 := Tryz.zeroValue178
  t171 := Tryz.underlying170
  a171 := Tryz.isAgg170
  z171 := Tryz.sizeOf170
  v171 := Tryz.zeroValue170
  t173 := Tryz.underlying173
  a173 := Tryz.isAgg173
  z173 := Tryz.sizeOf173
  v173 := Tryz.zeroValue173
  t175 := Tryz.underlying143
  a175 := Tryz.isAgg143
  z175 := Tryz.sizeOf143
  v175 := Tryz.zeroValue143
  t210 := Tryz.underlying201
  a210 := Tryz.isAgg201
  z210 := Tryz.sizeOf201
  v210 := Tryz.zeroValue201
  t212 := Tryz.underlying192
  a212 := Tryz.isAgg192
  z212 := Tryz.sizeOf192
  v212 := Tryz.zeroValue192
  t213 := Tryz.underlying194
  a213 := Tryz.isAgg194
  z213 := Tryz.sizeOf194
  t232 := Tryz.underlying210
  a232 := Tryz.isAgg210
  z232 := Tryz.sizeOf210
  v232 := Tryz.zeroValue210
  t233 := Tryz.underlying211
  a233 := Tryz.isAgg211
  z233 := Tryz.sizeOf211
  v233 := Tryz.zeroValue211
  g15 := by kernel_rfl
  g16 := by kernel_rfl
  g17 := by kernel_rfl
  g18 := by kernel_rfl
  g19 := by kernel_rfl
  t80 := Tryz.underlying155
  a80 := Tryz.isAgg155
  z80 := Tryz.sizeOf155
  v80 := Tryz.zeroValue155
  i0 := by kernel_rfl
  i2 := by kernel_rfl
  i3 := by kernel_rfl
  i4 := by kernel_rfl
  i5 := by kernel_rfl
  i9 := by kernel_rfl
  i20 := by kernel_rfl
  i21 := by kernel_rfl
  i37 := by kernel_rfl
  i46 := by kernel_rfl
  i51 := by kernel_rfl
  i53 := by kernel_rfl
  i75 := by kernel_rfl
  i80 := by kernel_rfl
  i85 := by kernel_rfl
  i127 := by kernel_rfl
  i143 := by kernel_rfl
  i145 := by kernel_rfl
  i167 := by kernel_rfl
  i168 := by kernel_rfl
  i171 := by kernel_rfl
  i173 := by kernel_rfl
  i175 := by kernel_rfl
  i210 := by kernel_rfl
  i212 := by kernel_rfl
  i232 := by kernel_rfl
  i233 := by kernel_rfl
  m15 := by kernel_rfl
  m16 := by kernel_rfl
  m17 := by kernel_rfl
  m18 := by kernel_rfl
  m19 := by kernel_rfl
  c0 := by kernel_rfl
  c2 := by kernel_rfl
  c3 := by kernel_rfl
  c4 := by kernel_rfl
  c5 := by kernel_rfl
  c9 := by kernel_rfl
  c20 := by kernel_rfl
  c21 := by kernel_rfl
  c37 := by kernel_rfl
  c46 := by kernel_rfl
  c51 := by kernel_rfl
  c53 := by kernel_rfl
  c75 := by kernel_rfl
  c80 := by kernel_rfl
  c85 := by kernel_rfl
  c127 := by kernel_rfl
  c143 := by kernel_rfl
  c145 := by kernel_rfl
  c167 := by kernel_rfl
  c168 := by kernel_rfl
  c171 := by kernel_rfl
  c173 := by kernel_rfl
  c175 := by kernel_rfl
  c210 := by kernel_rfl
  c212 := by kernel_rfl
  c213 := by kernel_rfl
  c232 := by kernel_rfl
  c233 := by kernel_rfl }
open Go.RowKit in
theorem Tryz.strconv_ParseInt_10_at64_ok (s : ByteArray) (hmax : s.size ≤ 9223372036854775806) (v : Int) (h : Lib.parseIntB 64 s.data.toList = .ok v) (w : World) :
    Calls Tryz.prog 126 #[.string s, .int .i64 10, .int .i64 64] w fun e w' => e = .returned (.tuple #[.int .i64 v, .nilIface]) ∧ (w' = w ∨ ∃ t, w' = Lib.bytesWorld w 5 t) := Any.strconv_ParseInt_10_at64_ok Tryz.laysC174 s hmax v h w
end Go.Proofs
