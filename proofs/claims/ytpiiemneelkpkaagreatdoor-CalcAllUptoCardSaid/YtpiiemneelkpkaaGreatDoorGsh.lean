import Derived.Shelf.Strings.Builder1
import Derived.Shelf.Strings.Builder2
import Derived.Shelf.Strings.Trim
import Derived.Shelf.Small.Utf8
import Derived.Shelf.Small.Strs
import Derived.Shelf.Strings.BuilderF
import Derived.Shelf.Strings.BuilderK
import Derived.Shelf.Strconv.Itoa0
import Derived.Shelf.Strconv.Itoa1
import Derived.Shelf.LaysM
import Derived.Shelf.Strconv.Itoa2
import Derived.Shelf.Strconv.Itoa3
import Derived.Shelf.Strconv.Itoa4
import Derived.Shelf.Strconv.ParseIntEmpty
import Derived.Shelf.Strconv.Clone
import Derived.Shelf.Strconv.SyntaxError
import Derived.Shelf.LaysC
import Derived.Shelf.Strconv.ToError
import Derived.Shelf.Strconv.Lower
import Derived.Shelf.Strconv.ParseUint10
import Derived.Shelf.Strconv.ParseUint10Empty
import Derived.Shelf.Strconv.ParseUint10Any
import Derived.Shelf.Strconv.ParseInt10
import Derived.Shelf.Strconv.RangeError
import Derived.Shelf.Strconv.ToErrorRange
import Derived.Shelf.Strconv.ParseUintEmpty
import Derived.Shelf.Strconv.ParseUint10b64
import Derived.Shelf.Strconv.ParseUint10b32
import Derived.Shelf.Strconv.ParseUint10b16
import Derived.Shelf.Strconv.ParseUint10b8
import Derived.Shelf.Strconv.ParseUint10At
import Derived.Shelf.Strconv.ParseInt10At64
import Derived.Shelf.Strconv.ParseInt10At32
import Derived.Shelf.Strconv.ParseInt10At16
import Derived.Shelf.Strconv.ParseInt10At8
import Derived.Shelf.Strconv.ParseInt10All
import Derived.Shelf.Strconv.ParseIntPublic10
import Derived.Shelf.Strings.Search1
import Derived.Shelf.Strings.Search2
import Derived.Shelf.Strings.Cut
import Derived.Shelf.Strings.Shaped
import Derived.Shelf.Strings.Prefix
import Derived.Shelf.Strings.Runes
import Derived.Shelf.Strings.AsciiSet
import Derived.Shelf.Bits.Mul64
import Derived.Shelf.Strings.Repeat
import Derived.Shelf.Unicode.DecodeSlow
import Derived.Shelf.Unicode.DecodeAny
import Derived.Test.YtpiiemneelkpkaaGreatDoorProg
namespace Go.Proofs
open Go.Shelf
def Tryz.laysM173_ren : Go.Shelf.Ren := ⟨fun | 173 => 99 | 246 => 168 | 283 => 195 | 284 => 196 | 285 => 197 | 286 => 198 | 129 => 219 | 317 => 218 | 318 => 220 | 319 => 221 | 320 => 222 | 337 => 236 | 338 => 237 | n => n, fun | 2 => 2 | 3 => 3 | 9 => 9 | 4 => 4 | 171 => 157 | 0 => 0 | 53 => 35 | 37 => 133 | 5 => 5 | 173 => 160 | 212 => 183 | 51 => 184 | 20 => 20 | 213 => 185 | 46 => 72 | 232 => 207 | 233 => 208 | n => n, fun | 17 => 1 | 18 => 6 | 19 => 7 | n => n⟩
theorem Tryz.laysM173 : Go.Proofs.LaysM.n173 Tryz.prog Tryz.laysM173_ren := {
 mixed := by kernel_rfl
 f129 := Tryz.func219.trans (congrArg some (by kernel_rfl))
 f173 := Tryz.func99.trans (congrArg some (by kernel_rfl))
 f246 := Tryz.func168.trans (congrArg some (by kernel_rfl))
 f283 := Tryz.func195.trans (congrArg some (by kernel_rfl))
 f284 := Tryz.func196.trans (congrArg some (by kernel_rfl))
 f285 := Tryz.func197.trans (congrArg some (by kernel_rfl))
 f286 := Tryz.func198.trans (congrArg some (by kernel_rfl))
 f317 := Tryz.func218.trans (congrArg some (by kernel_rfl))
 f318 := Tryz.func220.trans (congrArg some (by kernel_rfl))
 f319 := Tryz.func221.trans (congrArg some (by kernel_rfl))
 f320 := Tryz.func222.trans (congrArg some (by kernel_rfl))
 f337 := Tryz.func236.trans (congrArg some (by kernel_rfl))
 f338 := Tryz.func237.trans (congrArg some (by kernel_rfl))
 t0 := Tryz.underlying0
 a0 := Tryz.isAgg0
 z0 := Tryz.sizeOf0
 v0 := Tryz.zeroValue0
 t2 := Tryz.underlying2
 a2 := Tryz.isAgg2
 z2 := Tryz.sizeOf2
 v2 := Tryz.zeroValue2
 t3 := Tryz.underlying3
 a3 := Tryz.isAgg3
 z3 := Tryz.sizeOf3
 v3 := Tryz.zeroValue3
 t4 := Tryz.underlying4
 a4 := Tryz.isAgg4
 z4 := Tryz.sizeOf4
 v4 := Tryz.zeroValue4
 t5 := Tryz.underlying5
 a5 := Tryz.isAgg5
 z5 := Tryz.sizeOf5
 v5 := Tryz.zeroValue5
 t9 := Tryz.underlying9
 a9 := Tryz.isAgg9
 z9 := Tryz.sizeOf9
 v9 := Tryz.zeroValue9
 t20 := Tryz.underlying20
 a20 := Tryz.isAgg20
 z20 := Tryz.sizeOf20
 v20 := Tryz.zeroValue20
 t37 := Tryz.underlying133
 a37 := Tryz.isAgg133
 z37 := Tryz.sizeOf133
 v37 := Tryz.zeroValue133
 t46 := Tryz.underlying72
 a46 := Tryz.isAgg72
 z46 := Tryz.sizeOf72
 v46 := Tryz.zeroValue72
 t51 := Tryz.underlying184
 a51 := Tryz.isAgg184
 z51 := Tryz.sizeOf184
 v51 := Tryz.zeroValue184
 t53 := Tryz.underlying35
 a53 := Tryz.isAgg35
 z53 := Tryz.sizeOf35
 v53 := Tryz.zeroValue35
 t171 := Tryz.underlying157
 a171 := Tryz.isAgg157
 z171 := Tryz.sizeOf157
 v171 := Tryz.zeroValue157
 t173 := Tryz.underlying160
 a173 := Tryz.isAgg160
 z173 := Tryz.sizeOf160
 v173 := Tryz.zeroValue160
 t212 := Tryz.underlying183
 a212 := Tryz.isAgg183
 z212 := Tryz.sizeOf183
 v212 := Tryz.zeroValue183
 t213 := Tryz.underlying185
 a213 := Tryz.isAgg185
 z213 := Tryz.sizeOf185
 t232 := Tryz.underlying207
 a232 := Tryz.isAgg207
 z232 := Tryz.sizeOf207
 v232 := Tryz.zeroValue207
 t233 := Tryz.underlying208
 a233 := Tryz.isAgg208
 z233 := Tryz.sizeOf208
 v233 := Tryz.zeroValue208
 g17 := by kernel_rfl
 g18 := by kernel_rfl
 g19 := by kernel_rfl
 i0 := by kernel_rfl
 i2 := by kernel_rfl
 i3 := by kernel_rfl
 i4 := by kernel_rfl
 i5 := by kernel_rfl
 i9 := by kernel_rfl
 i20 := by kernel_rfl
 i37 := by kernel_rfl
 i46 := by kernel_rfl
 i51 := by kernel_rfl
 i53 := by kernel_rfl
 i171 := by kernel_rfl
 i173 := by kernel_rfl
 i212 := by kernel_rfl
 i232 := by kernel_rfl
 i233 := by kernel_rfl
 m17 := by kernel_rfl
 m18 := by kernel_rfl
 m19 := by kernel_rfl }
open Go.RowKit Go.Sort Go.Lib in
theorem Tryz.strconv_FormatInt_10 (n : Int) (h0 : -9223372036854775808 ≤ n) (h1 : n ≤ 9223372036854775807) (w : World) (htab : Lib.TabIs Tryz.prog w "internal/strconv.uint64pow10" .u64 Lib.pow10Tab) :
  Calls Tryz.prog 99 #[.int .i64 n, .int .i64 10] w fun e w' => e = .returned (.string ⟨(Lib.itoa n).toArray⟩) ∧ ∃ k os, w' = grow (w.drewN k) os := Any.strconv_FormatInt_10 Tryz.laysM173 n h0 h1 w htab
def Tryz.laysC174_ren : Go.Shelf.Ren := ⟨fun | 174 => 103 | 247 => 170 | 245 => 171 | 287 => 199 | 279 => 200 | 280 => 201 | 281 => 202 | 282 => 203 | 321 => 223 | 322 => 224 | 316 => 225 | 171 => 227 | 205 => 226 | 243 => 238 | 246 => 168 | 283 => 195 | 284 => 196 | 285 => 197 | 286 => 198 | 129 => 219 | 317 => 218 | 318 => 220 | 319 => 221 | 320 => 222 | 337 => 236 | 338 => 237 | n => n, fun | 9 => 9 | 3 => 3 | 2 => 2 | 75 => 118 | 85 => 119 | 4 => 4 | 167 => 162 | 5 => 5 | 53 => 35 | 175 => 163 | 46 => 72 | 168 => 165 | 37 => 133 | 0 => 0 | 210 => 188 | 21 => 21 | 127 => 175 | 145 => 199 | 143 => 197 | 171 => 157 | 173 => 160 | 212 => 183 | 51 => 184 | 20 => 20 | 213 => 185 | 232 => 207 | 233 => 208 | 80 => 146 | n => n, fun | 15 => 2 | 16 => 3 | 17 => 1 | 18 => 6 | 19 => 7 | n => n⟩
theorem Tryz.laysC174 : Go.Proofs.LaysC.n174 Tryz.prog Tryz.laysC174_ren := {
 mixed := by kernel_rfl
 f129 := Tryz.func219.trans (congrArg some (by kernel_rfl))
 f171 := Tryz.func227.trans (congrArg some (by kernel_rfl))
 f174 := Tryz.func103.trans (congrArg some (by kernel_rfl))
 f205 := Tryz.func226.trans (congrArg some (by kernel_rfl))
 f243 := Tryz.func238.trans (congrArg some (by kernel_rfl))
 f245 := Tryz.func171.trans (congrArg some (by kernel_rfl))
 f246 := Tryz.func168.trans (congrArg some (by kernel_rfl))
 f247 := Tryz.func170.trans (congrArg some (by kernel_rfl))
 f279 := Tryz.func200.trans (congrArg some (by kernel_rfl))
 f280 := Tryz.func201.trans (congrArg some (by kernel_rfl))
 f281 := Tryz.func202.trans (congrArg some (by kernel_rfl))
 f282 := Tryz.func203.trans (congrArg some (by kernel_rfl))
 f283 := Tryz.func195.trans (congrArg some (by kernel_rfl))
 f284 := Tryz.func196.trans (congrArg some (by kernel_rfl))
 f285 := Tryz.func197.trans (congrArg some (by kernel_rfl))
 f286 := Tryz.func198.trans (congrArg some (by kernel_rfl))
 f287 := Tryz.func199.trans (congrArg some (by kernel_rfl))
 f316 := Tryz.func225.trans (congrArg some (by kernel_rfl))
 f317 := Tryz.func218.trans (congrArg some (by kernel_rfl))
 f318 := Tryz.func220.trans (congrArg some (by kernel_rfl))
 f319 := Tryz.func221.trans (congrArg some (by kernel_rfl))
 f320 := Tryz.func222.trans (congrArg some (by kernel_rfl))
 f321 := Tryz.func223.trans (congrArg some (by kernel_rfl))
 f322 := Tryz.func224.trans (congrArg some (by kernel_rfl))
 f337 := Tryz.func236.trans (congrArg some (by kernel_rfl))
 f338 := Tryz.func237.trans (congrArg some (by kernel_rfl))
 t0 := Tryz.underlying0
 a0 := Tryz.isAgg0
 z0 := Tryz.sizeOf0
 v0 := Tryz.zeroValue0
 t2 := Tryz.underlying2
 a2 := Tryz.isAgg2
 z2 := Tryz.sizeOf2
 v2 := Tryz.zeroValue2
 t3 := Tryz.underlying3
 a3 := Tryz.isAgg3
 z3 := Tryz.sizeOf3
 v3 := Tryz.zeroValue3
 t4 := Tryz.underlying4
 a4 := Tryz.isAgg4
 z4 := Tryz.sizeOf4
 v4 := Tryz.zeroValue4
 t5 := Tryz.underlying5
 a5 := Tryz.isAgg5
 z5 := Tryz.sizeOf5
 v5 := Tryz.zeroValue5
 t9 := Tryz.underlying9
 a9 := Tryz.isAgg9
 z9 := Tryz.sizeOf9
 v9 := Tryz.zeroValue9
 t20 := Tryz.underlying20
 a20 := Tryz.isAgg20
 z20 := Tryz.sizeOf20
 v20 := Tryz.zeroValue20
 t21 := Tryz.underlying21
 a21 := Tryz.isAgg21
 z21 := Tryz.sizeOf21
 v21 := Tryz.zeroValue21
 t37 := Tryz.underlying133
 a37 := Tryz.isAgg133
 z37 := Tryz.sizeOf133
 v37 := Tryz.zeroValue133
 t46 := Tryz.underlying72
 a46 := Tryz.isAgg72
 z46 := Tryz.sizeOf72
 v46 := Tryz.zeroValue72
 t51 := Tryz.underlying184
 a51 := Tryz.isAgg184
 z51 := Tryz.sizeOf184
 v51 := Tryz.zeroValue184
 t53 := Tryz.underlying35
 a53 := Tryz.isAgg35
 z53 := Tryz.sizeOf35
 v53 := Tryz.zeroValue35
 t75 := Tryz.underlying118
 a75 := Tryz.isAgg118
 z75 := Tryz.sizeOf118
 v75 := Tryz.zeroValue118
 t85 := Tryz.underlying119
 a85 := Tryz.isAgg119
 z85 := Tryz.sizeOf119
 v85 := Tryz.zeroValue119
 t127 := Tryz.underlying175
 a127 := Tryz.isAgg175
 z127 := Tryz.sizeOf175
 v127 := Tryz.zeroValue175
 t143 := Tryz.underlying197
 a143 := Tryz.isAgg197
 z143 := Tryz.sizeOf197
 v143 := Tryz.zeroValue197
 t145 := Tryz.underlying199
 a145 := Tryz.isAgg199
 z145 := Tryz.sizeOf199
 v145 := Tryz.zeroValue199
 t167 := Tryz.underlying162
 a167 := Tryz.isAgg162
 z167 := Tryz.sizeOf162
 v167 := Tryz.zeroValue162
 t168 := Tryz.underlying165
 a168 := Tryz.isAgg165
 z168 := Tryz.sizeOf165
 v168 := Tryz.zeroValue165
 t171 := Tryz.underlying157
 a171 := Tryz.isAgg157
 z171 := Tryz.sizeOf157
 v171 := Tryz.zeroValue157
 t173 := Tryz.underlying160
 a173 := Tryz.isAgg160
 z173 := Tryz.sizeOf160
 v173 := Tryz.zeroValue160
 t175 := Tryz.underlying163
 a175 := Tryz.isAgg163
 z175 := Tryz.sizeOf163
 v175 := Tryz.zeroValue163
 t210 := Tryz.underlying188
 a210 := Tryz.isAgg188
 z210 := Tryz.sizeOf188
 v210 := Tryz.zeroValue188
 t212 := Tryz.underlying183
 a212 := Tryz.isAgg183
 z212 := Tryz.sizeOf183
 v212 := Tryz.zeroValue183
 t213 := Tryz.underlying185
 a213 := Tryz.isAgg185
 z213 := Tryz.sizeOf185
 t232 := Tryz.underlying207
 a232 := Tryz.isAgg207
 z232 := Tryz.sizeOf207
 v232 := Tryz.zeroValue207
 t233 := Tryz.underlying208
 a233 := Tryz.isAgg208
 z233 := Tryz.sizeOf208
 v233 := Tryz.zeroValue208
 g15 := by kernel_rfl
 g16 := by kernel_rfl
 g17 := by kernel_rfl
 g18 := by kernel_rfl
 g19 := by kernel_rfl
 t80 := Tryz.underlying146
 a80 := Tryz.isAgg146
 z80 := Tryz.sizeOf146
 v80 := Tryz.zeroValue146
 i0 := by kernel_rfl
 i2 := by kernel_rfl
 i3 := by kernel_rfl
 i4 := by kernel_rfl
 i5 := by kernel_rfl
 i9 := by kernel_rfl
 i20 := by kernel_rfl
 i21 := by kernel_rfl
 i37 := by kernel_rfl
 i46 := by kernel_rfl
 i51 := by kernel_rfl
 i53 := by kernel_rfl
 i75 := by kernel_rfl
 i80 := by kernel_rfl
 i85 := by kernel_rfl
 i127 := by kernel_rfl
 i143 := by kernel_rfl
 i145 := by kernel_rfl
 i167 := by kernel_rfl
 i168 := by kernel_rfl
 i171 := by kernel_rfl
 i173 := by kernel_rfl
 i175 := by kernel_rfl
 i210 := by kernel_rfl
 i212 := by kernel_rfl
 i232 := by kernel_rfl
 i233 := by kernel_rfl
 m15 := by kernel_rfl
 m16 := by kernel_rfl
 m17 := by kernel_rfl
 m18 := by kernel_rfl
 m19 := by kernel_rfl
 c0 := by kernel_rfl
 c2 := by kernel_rfl
 c3 := by kernel_rfl
 c4 := by kernel_rfl
 c5 := by kernel_rfl
 c9 := by kernel_rfl
 c20 := by kernel_rfl
 c21 := by kernel_rfl
 c37 := by kernel_rfl
 c46 := by kernel_rfl
 c51 := by kernel_rfl
 c53 := by kernel_rfl
 c75 := by kernel_rfl
 c80 := by kernel_rfl
 c85 := by kernel_rfl
 c127 := by kernel_rfl
 c143 := by kernel_rfl
 c145 := by kernel_rfl
 c167 := by kernel_rfl
 c168 := by kernel_rfl
 c171 := by kernel_rfl
 c173 := by kernel_rfl
 c175 := by kernel_rfl
 c210 := by kernel_rfl
 c212 := by kernel_rfl
 c213 := by kernel_rfl
 c232 := by kernel_rfl
 c233 := by kernel_rfl }
open Go.RowKit in
theorem Tryz.strconv_ParseInt_10_at64_ok (s : ByteArray) (hmax : s.size ≤ 9223372036854775806) (v : Int) (h : Lib.parseIntB 64 s.data.toList = .ok v) (w : World) :
  Calls Tryz.prog 103 #[.string s, .int .i64 10, .int .i64 64] w fun e w' => e = .returned (.tuple #[.int .i64 v, .nilIface]) ∧ (w' = w ∨ ∃ t, w' = Lib.bytesWorld w 5 t) := Any.strconv_ParseInt_10_at64_ok Tryz.laysC174 s hmax v h w
open Go.RowKit in
theorem Tryz.strconv_ParseInt_10_at64_range (s : ByteArray) (hlim : s.size ≤ 281474976710656) (h : Lib.parseIntB 64 s.data.toList = .range) (ev : Value) (w : World) (hv : w.cell? ⟨3, 0, none⟩ = some ev) (hev : ev = .nilIface ∨ ∃ te pe, ev = .iface te pe) :
  Calls Tryz.prog 103 #[.string s, .int .i64 10, .int .i64 64] w fun e w' => ∃ N, e = .returned (.tuple #[.int .i64 (Lib.intSat 64 s.data.toList), .iface 165 (.pointer (some ⟨N, 0, none⟩))]) ∧ w.heap.size ≤ N ∧ w'.heap[N]? = some (.cells #[.string ⟨#[80, 97, 114, 115, 101, 73, 110, 116]⟩, .string s, ev] 188 (0, 0)) ∧ Below w.heap.size w w' := Any.strconv_ParseInt_10_at64_range Tryz.laysC174 s hlim h ev w hv hev
end Go.Proofs
namespace Go.Proofs
open Go.Shelf
def Tryz.lays106_ren : Go.Shelf.Ren := ⟨fun | 106 => 76 | 213 => 102 | 265 => 169 | n => n, fun | 9 => 9 | 3 => 3 | n => n, fun | n => n⟩
theorem Tryz.lays106 : Go.Proofs.Lays.n106 Tryz.prog Tryz.lays106_ren := {
 mixed := by kernel_rfl
 f106 := Tryz.func76.trans (congrArg some (by kernel_rfl))
 f213 := Tryz.func102.trans (congrArg some (by kernel_rfl))
 f265 := Tryz.func169.trans (congrArg some (by kernel_rfl))
 t3 := Tryz.underlying3
 a3 := Tryz.isAgg3
 z3 := Tryz.sizeOf3
 v3 := Tryz.zeroValue3
 t9 := Tryz.underlying9
 a9 := Tryz.isAgg9
 z9 := Tryz.sizeOf9
 v9 := Tryz.zeroValue9 }
open Go.RowKit in
theorem Tryz.strings_Compare (a b : ByteArray) (w : World) :
  Calls Tryz.prog 76 #[.string a, .string b] w fun e w' => e = .returned (.int .i64 (Lib.compareBytes a.data.toList b.data.toList)) ∧ w' = w := Any.strings_Compare Tryz.lays106 a b w
end Go.Proofs
namespace Go.Proofs
open Go.Shelf
def Tryz.lays119_ren : Go.Shelf.Ren := ⟨fun | 119 => 190 | n => n, fun | 21 => 21 | 4 => 4 | n => n, fun | n => n⟩
theorem Tryz.lays119 : Go.Proofs.Lays.n119 Tryz.prog Tryz.lays119_ren := {
 mixed := by kernel_rfl
 f119 := Tryz.func190.trans (congrArg some (by kernel_rfl))
 t4 := Tryz.underlying4
 a4 := Tryz.isAgg4
 z4 := Tryz.sizeOf4
 v4 := Tryz.zeroValue4
 t21 := Tryz.underlying21
 a21 := Tryz.isAgg21
 z21 := Tryz.sizeOf21
 v21 := Tryz.zeroValue21 }
theorem Tryz.utf8_ValidRune (r : Int) (w : World) :
  Calls Tryz.prog 190 #[.int .i32 r] w fun e w' => e = .returned (.bool (Lib.validRune r)) ∧ w' = w := Any.utf8_ValidRune Tryz.lays119 r w
def Tryz.lays99_ren : Go.Shelf.Ren := ⟨fun | 99 => 185 | 206 => 213 | n => n, fun | 9 => 9 | 4 => 4 | 3 => 3 | n => n, fun | n => n⟩
theorem Tryz.lays99 : Go.Proofs.Lays.n99 Tryz.prog Tryz.lays99_ren := {
 mixed := by kernel_rfl
 f99 := Tryz.func185.trans (congrArg some (by kernel_rfl))
 f206 := Tryz.func213.trans (congrArg some (by kernel_rfl))
 t3 := Tryz.underlying3
 a3 := Tryz.isAgg3
 z3 := Tryz.sizeOf3
 v3 := Tryz.zeroValue3
 t4 := Tryz.underlying4
 a4 := Tryz.isAgg4
 z4 := Tryz.sizeOf4
 v4 := Tryz.zeroValue4
 t9 := Tryz.underlying9
 a9 := Tryz.isAgg9
 z9 := Tryz.sizeOf9
 v9 := Tryz.zeroValue9 }
open Go.RowKit Go.Lib in
theorem Tryz.strings_HasPrefix (s p : ByteArray) (w : World) :
  Calls Tryz.prog 185 #[.string s, .string p] w fun e w' => e = .returned (.bool (Lib.hasPrefix s.data.toList p.data.toList)) ∧ w' = w := Any.strings_HasPrefix Tryz.lays99 s p w
def Tryz.lays197_ren : Go.Shelf.Ren := ⟨fun | 197 => 212 | 260 => 232 | n => n, fun | 9 => 9 | 21 => 21 | 3 => 3 | 4 => 4 | 5 => 5 | 105 => 176 | 119 => 201 | 0 => 0 | 46 => 72 | 139 => 204 | 138 => 203 | n => n, fun | 3 => 4 | 4 => 5 | n => n⟩
theorem Tryz.lays197 : Go.Proofs.Lays.n197 Tryz.prog Tryz.lays197_ren := {
 mixed := by kernel_rfl
 f197 := Tryz.func212.trans (congrArg some (by kernel_rfl))
 f260 := Tryz.func232.trans (congrArg some (by kernel_rfl))
 t0 := Tryz.underlying0
 a0 := Tryz.isAgg0
 z0 := Tryz.sizeOf0
 v0 := Tryz.zeroValue0
 t3 := Tryz.underlying3
 a3 := Tryz.isAgg3
 z3 := Tryz.sizeOf3
 v3 := Tryz.zeroValue3
 t4 := Tryz.underlying4
 a4 := Tryz.isAgg4
 z4 := Tryz.sizeOf4
 v4 := Tryz.zeroValue4
 t5 := Tryz.underlying5
 a5 := Tryz.isAgg5
 z5 := Tryz.sizeOf5
 v5 := Tryz.zeroValue5
 t9 := Tryz.underlying9
 a9 := Tryz.isAgg9
 z9 := Tryz.sizeOf9
 v9 := Tryz.zeroValue9
 t21 := Tryz.underlying21
 a21 := Tryz.isAgg21
 z21 := Tryz.sizeOf21
 v21 := Tryz.zeroValue21
 t46 := Tryz.underlying72
 a46 := Tryz.isAgg72
 z46 := Tryz.sizeOf72
 v46 := Tryz.zeroValue72
 t105 := Tryz.underlying176
 a105 := Tryz.isAgg176
 z105 := Tryz.sizeOf176
 v105 := Tryz.zeroValue176
 t119 := Tryz.underlying201
 a119 := Tryz.isAgg201
 z119 := Tryz.sizeOf201
 t138 := Tryz.underlying203
 a138 := Tryz.isAgg203
 z138 := Tryz.sizeOf203
 v138 := Tryz.zeroValue203
 t139 := Tryz.underlying204
 a139 := Tryz.isAgg204
 z139 := Tryz.sizeOf204
 v139 := Tryz.zeroValue204
 g3 := by kernel_rfl
 g4 := by kernel_rfl }
open Go.RowKit Go.Lib in
theorem Tryz.utf8_DecodeRuneInString (s : ByteArray) (w : World) (hT : Lib.Utf8Tabs 4 5 w) :
  Calls Tryz.prog 212 #[.string s] w fun e w' => e = .returned (.tuple #[.int .i32 (Lib.decodeGo s).1, .int .i64 (Lib.decodeGo s).2]) ∧ Below w.heap.size w w' := Any.utf8_DecodeRuneInString Tryz.lays197 s w hT
end Go.Proofs
namespace Go.Proofs
open Go.Shelf
def Tryz.lays169_ren : Go.Shelf.Ren := ⟨fun | 169 => 183 | n => n, fun | 70 => 142 | 9 => 9 | 0 => 0 | 72 => 144 | 37 => 133 | 127 => 175 | 3 => 3 | 5 => 5 | n => n, fun | n => n⟩
theorem Tryz.lays169 : Go.Proofs.Lays.n169 Tryz.prog Tryz.lays169_ren := {
 mixed := by kernel_rfl
 f169 := Tryz.func183.trans (congrArg some (by kernel_rfl))
 t0 := Tryz.underlying0
 a0 := Tryz.isAgg0
 z0 := Tryz.sizeOf0
 v0 := Tryz.zeroValue0
 t3 := Tryz.underlying3
 a3 := Tryz.isAgg3
 z3 := Tryz.sizeOf3
 v3 := Tryz.zeroValue3
 t9 := Tryz.underlying9
 a9 := Tryz.isAgg9
 z9 := Tryz.sizeOf9
 v9 := Tryz.zeroValue9
 t37 := Tryz.underlying133
 a37 := Tryz.isAgg133
 z37 := Tryz.sizeOf133
 v37 := Tryz.zeroValue133
 t70 := Tryz.underlying142
 a70 := Tryz.isAgg142
 z70 := Tryz.sizeOf142
 v70 := Tryz.zeroValue142
 t72 := Tryz.underlying144
 a72 := Tryz.isAgg144
 z72 := Tryz.sizeOf144
 v72 := Tryz.zeroValue144
 t127 := Tryz.underlying175
 a127 := Tryz.isAgg175
 z127 := Tryz.sizeOf175
 v127 := Tryz.zeroValue175 }
theorem Tryz.Builder_Extra_169 : Builder.Extra Tryz.prog Tryz.lays169_ren := {
 sizeBuilder := by kernel_rfl
 liesBuilder := by kernel_rfl
 t5 := Tryz.underlying5
 a5 := Tryz.isAgg5
 z5 := Tryz.sizeOf5
 v5 := Tryz.zeroValue5
 infoByte := by kernel_rfl
 cellsByte := by kernel_rfl
 sizeByte := by kernel_rfl
 neB5 := by decide }
open Go.RowKit in
theorem Tryz.Builder_String_any (B b : Nat) (l : List UInt8) (w : World) (h : Lib.IsBuilder 144 5 B b (Lib.byteCells l) w) (hBw : B ≤ w.heap.size) :
  Calls Tryz.prog 183 #[.pointer (some ⟨b, 0, none⟩)] w fun e w' => e = .returned (.string ⟨l.toArray⟩) ∧ Below B w w' := Any.Builder_String_any Tryz.lays169 Tryz.Builder_Extra_169 B b l w h hBw
def Tryz.lays160_ren : Go.Shelf.Ren := ⟨fun | 160 => 181 | 232 => 205 | 231 => 204 | 227 => 206 | 234 => 208 | 233 => 207 | 236 => 210 | 235 => 209 | 228 => 228 | 271 => 230 | 151 => 229 | 197 => 212 | 120 => 240 | 152 => 239 | 260 => 232 | 137 => 246 | 119 => 190 | 224 => 243 | 225 => 242 | 217 => 241 | 266 => 247 | n => n, fun | 9 => 9 | 4 => 4 | 3 => 3 | 5 => 5 | 117 => 171 | 116 => 170 | 0 => 0 | 124 => 174 | 21 => 21 | 105 => 176 | 46 => 72 | 119 => 201 | 139 => 204 | 138 => 203 | n => n, fun | 3 => 4 | 4 => 5 | n => n⟩
theorem Tryz.lays160 : Go.Proofs.Lays.n160 Tryz.prog Tryz.lays160_ren := {
 mixed := by kernel_rfl
 f119 := Tryz.func190.trans (congrArg some (by kernel_rfl))
 f120 := Tryz.func240.trans (congrArg some (by kernel_rfl))
 f137 := Tryz.func246.trans (congrArg some (by kernel_rfl))
 f151 := Tryz.func229.trans (congrArg some (by kernel_rfl))
 f152 := Tryz.func239.trans (congrArg some (by kernel_rfl))
 f160 := Tryz.func181.trans (congrArg some (by kernel_rfl))
 f197 := Tryz.func212.trans (congrArg some (by kernel_rfl))
 f217 := Tryz.func241.trans (congrArg some (by kernel_rfl))
 f224 := Tryz.func243.trans (congrArg some (by kernel_rfl))
 f225 := Tryz.func242.trans (congrArg some (by kernel_rfl))
 f227 := Tryz.func206.trans (congrArg some (by kernel_rfl))
 f228 := Tryz.func228.trans (congrArg some (by kernel_rfl))
 f231 := Tryz.func204.trans (congrArg some (by kernel_rfl))
 f232 := Tryz.func205.trans (congrArg some (by kernel_rfl))
 f233 := Tryz.func207.trans (congrArg some (by kernel_rfl))
 f234 := Tryz.func208.trans (congrArg some (by kernel_rfl))
 f235 := Tryz.func209.trans (congrArg some (by kernel_rfl))
 f236 := Tryz.func210.trans (congrArg some (by kernel_rfl))
 f260 := Tryz.func232.trans (congrArg some (by kernel_rfl))
 f266 := Tryz.func247.trans (congrArg some (by kernel_rfl))
 f271 := Tryz.func230.trans (congrArg some (by kernel_rfl))
 t0 := Tryz.underlying0
 a0 := Tryz.isAgg0
 z0 := Tryz.sizeOf0
 v0 := Tryz.zeroValue0
 t3 := Tryz.underlying3
 a3 := Tryz.isAgg3
 z3 := Tryz.sizeOf3
 v3 := Tryz.zeroValue3
 t4 := Tryz.underlying4
 a4 := Tryz.isAgg4
 z4 := Tryz.sizeOf4
 v4 := Tryz.zeroValue4
 t5 := Tryz.underlying5
 a5 := Tryz.isAgg5
 z5 := Tryz.sizeOf5
 v5 := Tryz.zeroValue5
 t9 := Tryz.underlying9
 a9 := Tryz.isAgg9
 z9 := Tryz.sizeOf9
 v9 := Tryz.zeroValue9
 t21 := Tryz.underlying21
 a21 := Tryz.isAgg21
 z21 := Tryz.sizeOf21
 v21 := Tryz.zeroValue21
 t46 := Tryz.underlying72
 a46 := Tryz.isAgg72
 z46 := Tryz.sizeOf72
 v46 := Tryz.zeroValue72
 t105 := Tryz.underlying176
 a105 := Tryz.isAgg176
 z105 := Tryz.sizeOf176
 v105 := Tryz.zeroValue176
 t116 := Tryz.underlying170
 a116 := Tryz.isAgg170
 z116 := Tryz.sizeOf170
 t117 := Tryz.underlying171
 a117 := Tryz.isAgg171
 z117 := Tryz.sizeOf171
 v117 := Tryz.zeroValue171
 t119 := Tryz.underlying201
 a119 := Tryz.isAgg201
 z119 := Tryz.sizeOf201
 t124 := Tryz.underlying174
 a124 := Tryz.isAgg174
 z124 := Tryz.sizeOf174
 v124 := Tryz.zeroValue174
 t138 := Tryz.underlying203
 a138 := Tryz.isAgg203
 z138 := Tryz.sizeOf203
 v138 := Tryz.zeroValue203
 t139 := Tryz.underlying204
 a139 := Tryz.isAgg204
 z139 := Tryz.sizeOf204
 v139 := Tryz.zeroValue204
 g3 := by kernel_rfl
 g4 := by kernel_rfl }
open Go.RowKit in
theorem Tryz.strings_Trim_one (s : ByteArray) (c : UInt8) (hc : c.toNat < 128) (w : World) (hs : s.size ≤ 9223372036854775807) :
  Calls Tryz.prog 181 #[.string s, .string ⟨#[c]⟩] w fun e w' => e = .returned (.string ⟨(Lib.trimB s.data.toList c).toArray⟩) ∧ (w' = w ∨ w' = w.drew) := Any.strings_Trim_one Tryz.lays160 s c hc w hs
end Go.Proofs
namespace Go.Proofs.YtpiiemneelkpkaaGreatDoor
open Go.Shelf
def wb_ren : Go.Shelf.Ren := ⟨fun | 167 => 182 | 240 => 211 | 276 => 231 | n => n, fun | 70 => 142 | 9 => 9 | 0 => 0 | 72 => 144 | 37 => 133 | 4 => 4 | 5 => 5 | 20 => 20 | 75 => 118 | 80 => 146 | 164 => 192 | n => n, fun | n => n⟩
theorem wb_lays : Go.Proofs.Lays.n167 Tryz.prog wb_ren := {
 mixed := by kernel_rfl
 f167 := Tryz.func182.trans (congrArg some (by kernel_rfl))
 f240 := Tryz.func211.trans (congrArg some (by kernel_rfl))
 f276 := Tryz.func231.trans (congrArg some (by kernel_rfl))
 t0 := Tryz.underlying0
 a0 := Tryz.isAgg0
 z0 := Tryz.sizeOf0
 v0 := Tryz.zeroValue0
 t4 := Tryz.underlying4
 a4 := Tryz.isAgg4
 z4 := Tryz.sizeOf4
 v4 := Tryz.zeroValue4
 t5 := Tryz.underlying5
 a5 := Tryz.isAgg5
 z5 := Tryz.sizeOf5
 v5 := Tryz.zeroValue5
 t9 := Tryz.underlying9
 a9 := Tryz.isAgg9
 z9 := Tryz.sizeOf9
 v9 := Tryz.zeroValue9
 t20 := Tryz.underlying20
 a20 := Tryz.isAgg20
 z20 := Tryz.sizeOf20
 v20 := Tryz.zeroValue20
 t37 := Tryz.underlying133
 a37 := Tryz.isAgg133
 z37 := Tryz.sizeOf133
 v37 := Tryz.zeroValue133
 t70 := Tryz.underlying142
 a70 := Tryz.isAgg142
 z70 := Tryz.sizeOf142
 v70 := Tryz.zeroValue142
 t72 := Tryz.underlying144
 a72 := Tryz.isAgg144
 z72 := Tryz.sizeOf144
 v72 := Tryz.zeroValue144
 t75 := Tryz.underlying118
 a75 := Tryz.isAgg118
 z75 := Tryz.sizeOf118
 v75 := Tryz.zeroValue118
 t164 := Tryz.underlying192
 a164 := Tryz.isAgg192
 z164 := Tryz.sizeOf192
 v164 := Tryz.zeroValue192 }
theorem wb_extra : Builder.Extra Tryz.prog wb_ren := {
 sizeBuilder := by kernel_rfl
 liesBuilder := by kernel_rfl
 t5 := Tryz.underlying5
 a5 := Tryz.isAgg5
 z5 := Tryz.sizeOf5
 v5 := Tryz.zeroValue5
 infoByte := by kernel_rfl
 cellsByte := by kernel_rfl
 sizeByte := by kernel_rfl
 neB5 := by decide }
open Go.RowKit in
theorem writeByte_any (B b : Nat) (bs : List Value) (c : Int) (w : World) (h : Lib.IsBuilder 144 5 B b bs w) (hlen : bs.length + 1 ≤ 140737488355328) (hBw : B ≤ w.heap.size) :
  Calls Tryz.prog 182 #[.pointer (some ⟨b, 0, none⟩), .int .u8 c] w fun e w' => e = .returned .nilIface ∧ (Lib.BuilderAt 144 5 B b (.pointer (some ⟨b, 0, none⟩)) (bs ++ [.int .u8 c]) w' ∧ Below B w w') := Any.Builder_WriteByte wb_lays wb_extra B b bs c w h hlen hBw
end Go.Proofs.YtpiiemneelkpkaaGreatDoor
namespace Go.Proofs
open Go.Shelf
def Tryz.lays105_ren : Go.Shelf.Ren := ⟨fun | 105 => 189 | 212 => 215 | 99 => 185 | 165 => 216 | 166 => 187 | 170 => 188 | 169 => 183 | 263 => 234 | 264 => 15 | 206 => 213 | 240 => 211 | 241 => 235 | 276 => 231 | 277 => 245 | n => n, fun | 9 => 9 | 3 => 3 | 4 => 4 | 20 => 20 | 0 => 0 | 46 => 72 | 109 => 178 | 5 => 5 | 72 => 144 | 76 => 151 | 51 => 184 | 146 => 194 | 53 => 35 | 148 => 36 | 70 => 142 | 37 => 133 | 75 => 118 | 127 => 175 | 164 => 192 | 80 => 146 | n => n, fun | n => n⟩
theorem Tryz.lays105 : Go.Proofs.Lays.n105 Tryz.prog Tryz.lays105_ren := {
 mixed := by kernel_rfl
 f99 := Tryz.func185.trans (congrArg some (by kernel_rfl))
 f105 := Tryz.func189.trans (congrArg some (by kernel_rfl))
 f165 := Tryz.func216.trans (congrArg some (by kernel_rfl))
 f166 := Tryz.func187.trans (congrArg some (by kernel_rfl))
 f169 := Tryz.func183.trans (congrArg some (by kernel_rfl))
 f170 := Tryz.func188.trans (congrArg some (by kernel_rfl))
 f206 := Tryz.func213.trans (congrArg some (by kernel_rfl))
 f212 := Tryz.func215.trans (congrArg some (by kernel_rfl))
 f240 := Tryz.func211.trans (congrArg some (by kernel_rfl))
 f241 := Tryz.func235.trans (congrArg some (by kernel_rfl))
 f263 := Tryz.func234.trans (congrArg some (by kernel_rfl))
 f264 := Tryz.func15.trans (congrArg some (by kernel_rfl))
 f276 := Tryz.func231.trans (congrArg some (by kernel_rfl))
 f277 := Tryz.func245.trans (congrArg some (by kernel_rfl))
 t0 := Tryz.underlying0
 a0 := Tryz.isAgg0
 z0 := Tryz.sizeOf0
 v0 := Tryz.zeroValue0
 t3 := Tryz.underlying3
 a3 := Tryz.isAgg3
 z3 := Tryz.sizeOf3
 v3 := Tryz.zeroValue3
 t4 := Tryz.underlying4
 a4 := Tryz.isAgg4
 z4 := Tryz.sizeOf4
 v4 := Tryz.zeroValue4
 t5 := Tryz.underlying5
 a5 := Tryz.isAgg5
 z5 := Tryz.sizeOf5
 v5 := Tryz.zeroValue5
 t9 := Tryz.underlying9
 a9 := Tryz.isAgg9
 z9 := Tryz.sizeOf9
 v9 := Tryz.zeroValue9
 t20 := Tryz.underlying20
 a20 := Tryz.isAgg20
 z20 := Tryz.sizeOf20
 v20 := Tryz.zeroValue20
 t37 := Tryz.underlying133
 a37 := Tryz.isAgg133
 z37 := Tryz.sizeOf133
 v37 := Tryz.zeroValue133
 t46 := Tryz.underlying72
 a46 := Tryz.isAgg72
 z46 := Tryz.sizeOf72
 v46 := Tryz.zeroValue72
 t51 := Tryz.underlying184
 a51 := Tryz.isAgg184
 z51 := Tryz.sizeOf184
 v51 := Tryz.zeroValue184
 t53 := Tryz.underlying35
 a53 := Tryz.isAgg35
 z53 := Tryz.sizeOf35
 v53 := Tryz.zeroValue35
 t70 := Tryz.underlying142
 a70 := Tryz.isAgg142
 z70 := Tryz.sizeOf142
 v70 := Tryz.zeroValue142
 t72 := Tryz.underlying144
 a72 := Tryz.isAgg144
 z72 := Tryz.sizeOf144
 v72 := Tryz.zeroValue144
 t75 := Tryz.underlying118
 a75 := Tryz.isAgg118
 z75 := Tryz.sizeOf118
 v75 := Tryz.zeroValue118
 t76 := Tryz.underlying151
 a76 := Tryz.isAgg151
 z76 := Tryz.sizeOf151
 v76 := Tryz.zeroValue151
 t109 := Tryz.underlying178
 a109 := Tryz.isAgg178
 z109 := Tryz.sizeOf178
 v109 := Tryz.zeroValue178
 t127 := Tryz.underlying175
 a127 := Tryz.isAgg175
 z127 := Tryz.sizeOf175
 v127 := Tryz.zeroValue175
 t146 := Tryz.underlying194
 a146 := Tryz.isAgg194
 z146 := Tryz.sizeOf194
 v146 := Tryz.zeroValue194
 t148 := Tryz.underlying36
 a148 := Tryz.isAgg36
 z148 := Tryz.sizeOf36
 v148 := Tryz.zeroValue36
 t164 := Tryz.underlying192
 a164 := Tryz.isAgg192
 z164 := Tryz.sizeOf192
 v164 := Tryz.zeroValue192 }
theorem Tryz.Builder_Extra_105 : Builder.Extra Tryz.prog Tryz.lays105_ren := {
 sizeBuilder := by kernel_rfl
 liesBuilder := by kernel_rfl
 t5 := Tryz.underlying5
 a5 := Tryz.isAgg5
 z5 := Tryz.sizeOf5
 v5 := Tryz.zeroValue5
 infoByte := by kernel_rfl
 cellsByte := by kernel_rfl
 sizeByte := by kernel_rfl
 neB5 := by decide }
open Go.RowKit Go.Lib in
theorem Tryz.strings_Repeat (s : ByteArray) (c : Nat) (w : World) (hc : c ≤ 9223372036854775807) (hlen : s.size * c ≤ 140737488355328) :
  Calls Tryz.prog 189 #[.string s, .int .i64 c] w fun e w' => e = .returned (.string ⟨(Lib.repeatL s.data.toList c).toArray⟩) ∧ Below w.heap.size w w' := Any.strings_Repeat Tryz.lays105 Tryz.Builder_Extra_105 s c w hc hlen
end Go.Proofs
namespace Go.Proofs
open Go.Shelf
def Tryz.lays170_ren : Go.Shelf.Ren := ⟨fun | 170 => 188 | n => n, fun | 70 => 142 | 3 => 3 | 0 => 0 | 72 => 144 | 37 => 133 | 5 => 5 | n => n, fun | n => n⟩
theorem Tryz.lays170 : Go.Proofs.Lays.n170 Tryz.prog Tryz.lays170_ren := {
 mixed := by kernel_rfl
 f170 := Tryz.func188.trans (congrArg some (by kernel_rfl))
 t0 := Tryz.underlying0
 a0 := Tryz.isAgg0
 z0 := Tryz.sizeOf0
 v0 := Tryz.zeroValue0
 t3 := Tryz.underlying3
 a3 := Tryz.isAgg3
 z3 := Tryz.sizeOf3
 v3 := Tryz.zeroValue3
 t37 := Tryz.underlying133
 a37 := Tryz.isAgg133
 z37 := Tryz.sizeOf133
 v37 := Tryz.zeroValue133
 t70 := Tryz.underlying142
 a70 := Tryz.isAgg142
 z70 := Tryz.sizeOf142
 v70 := Tryz.zeroValue142
 t72 := Tryz.underlying144
 a72 := Tryz.isAgg144
 z72 := Tryz.sizeOf144
 v72 := Tryz.zeroValue144 }
open Go.RowKit in
theorem Tryz.Builder_Len (B b : Nat) (bs : List Value) (w : World) (h : Lib.IsBuilder 144 5 B b bs w) :
  Calls Tryz.prog 188 #[.pointer (some ⟨b, 0, none⟩)] w fun e w' => e = .returned (.int .i64 bs.length) ∧ w' = w := Any.Builder_Len Tryz.lays170 B b bs w h
def Tryz.lays145_ren : Go.Shelf.Ren := ⟨fun | 145 => 186 | 220 => 214 | 219 => 233 | 217 => 241 | 225 => 242 | 224 => 243 | 267 => 244 | 266 => 247 | 314 => 248 | n => n, fun | 9 => 9 | 4 => 4 | 59 => 149 | 3 => 3 | 5 => 5 | 46 => 72 | 146 => 194 | 51 => 184 | n => n, fun | 1 => 0 | n => n⟩
theorem Tryz.lays145 : Go.Proofs.Lays.n145 Tryz.prog Tryz.lays145_ren := {
 mixed := by kernel_rfl
 f145 := Tryz.func186.trans (congrArg some (by kernel_rfl))
 f217 := Tryz.func241.trans (congrArg some (by kernel_rfl))
 f219 := Tryz.func233.trans (congrArg some (by kernel_rfl))
 f220 := Tryz.func214.trans (congrArg some (by kernel_rfl))
 f224 := Tryz.func243.trans (congrArg some (by kernel_rfl))
 f225 := Tryz.func242.trans (congrArg some (by kernel_rfl))
 f266 := Tryz.func247.trans (congrArg some (by kernel_rfl))
 f267 := Tryz.func244.trans (congrArg some (by kernel_rfl))
 f314 := Tryz.func248.trans (congrArg some (by kernel_rfl))
 t3 := Tryz.underlying3
 a3 := Tryz.isAgg3
 z3 := Tryz.sizeOf3
 v3 := Tryz.zeroValue3
 t4 := Tryz.underlying4
 a4 := Tryz.isAgg4
 z4 := Tryz.sizeOf4
 v4 := Tryz.zeroValue4
 t5 := Tryz.underlying5
 a5 := Tryz.isAgg5
 z5 := Tryz.sizeOf5
 v5 := Tryz.zeroValue5
 t9 := Tryz.underlying9
 a9 := Tryz.isAgg9
 z9 := Tryz.sizeOf9
 v9 := Tryz.zeroValue9
 t46 := Tryz.underlying72
 a46 := Tryz.isAgg72
 z46 := Tryz.sizeOf72
 v46 := Tryz.zeroValue72
 t51 := Tryz.underlying184
 a51 := Tryz.isAgg184
 z51 := Tryz.sizeOf184
 v51 := Tryz.zeroValue184
 t59 := Tryz.underlying149
 a59 := Tryz.isAgg149
 z59 := Tryz.sizeOf149
 v59 := Tryz.zeroValue149
 t146 := Tryz.underlying194
 a146 := Tryz.isAgg194
 z146 := Tryz.sizeOf194
 v146 := Tryz.zeroValue194
 g1 := by kernel_rfl }
open Go.RowKit Go.Lib in
theorem Tryz.strings_Cut (s sep : ByteArray) (m : Int) (w : World) (hs : s.size < 4294967281) (hm : w.cell? ⟨0, 0, none⟩ = some (.int .i64 m)) :
  Calls Tryz.prog 186 #[.string s, .string sep] w fun e w' => e = .returned (.tuple #[.string ⟨(Lib.cut s.data.toList sep.data.toList).1.toArray⟩, .string ⟨(Lib.cut s.data.toList sep.data.toList).2.1.toArray⟩, .bool (Lib.cut s.data.toList sep.data.toList).2.2]) ∧ ∃ n, w' = w.drewN n := Any.strings_Cut Tryz.lays145 s sep m w hs hm
end Go.Proofs
namespace Go.Proofs.YtpiiemneelkpkaaGreatDoor
open Go.Shelf
def ws_ren : Go.Shelf.Ren := ⟨fun | 166 => 187 | 240 => 211 | 276 => 231 | n => n, fun | 70 => 142 | 9 => 9 | 3 => 3 | 0 => 0 | 72 => 144 | 37 => 133 | 4 => 4 | 5 => 5 | 20 => 20 | 75 => 118 | 80 => 146 | 164 => 192 | n => n, fun | n => n⟩
theorem ws_lays : Go.Proofs.Lays.n166 Tryz.prog ws_ren := {
 mixed := by kernel_rfl
 f166 := Tryz.func187.trans (congrArg some (by kernel_rfl))
 f240 := Tryz.func211.trans (congrArg some (by kernel_rfl))
 f276 := Tryz.func231.trans (congrArg some (by kernel_rfl))
 t0 := Tryz.underlying0
 a0 := Tryz.isAgg0
 z0 := Tryz.sizeOf0
 v0 := Tryz.zeroValue0
 t3 := Tryz.underlying3
 a3 := Tryz.isAgg3
 z3 := Tryz.sizeOf3
 v3 := Tryz.zeroValue3
 t4 := Tryz.underlying4
 a4 := Tryz.isAgg4
 z4 := Tryz.sizeOf4
 v4 := Tryz.zeroValue4
 t9 := Tryz.underlying9
 a9 := Tryz.isAgg9
 z9 := Tryz.sizeOf9
 v9 := Tryz.zeroValue9
 t20 := Tryz.underlying20
 a20 := Tryz.isAgg20
 z20 := Tryz.sizeOf20
 v20 := Tryz.zeroValue20
 t37 := Tryz.underlying133
 a37 := Tryz.isAgg133
 z37 := Tryz.sizeOf133
 v37 := Tryz.zeroValue133
 t70 := Tryz.underlying142
 a70 := Tryz.isAgg142
 z70 := Tryz.sizeOf142
 v70 := Tryz.zeroValue142
 t72 := Tryz.underlying144
 a72 := Tryz.isAgg144
 z72 := Tryz.sizeOf144
 v72 := Tryz.zeroValue144
 t75 := Tryz.underlying118
 a75 := Tryz.isAgg118
 z75 := Tryz.sizeOf118
 v75 := Tryz.zeroValue118
 t164 := Tryz.underlying192
 a164 := Tryz.isAgg192
 z164 := Tryz.sizeOf192
 v164 := Tryz.zeroValue192 }
theorem ws_extra : Builder.Extra Tryz.prog ws_ren := {
 sizeBuilder := by kernel_rfl
 liesBuilder := by kernel_rfl
 t5 := Tryz.underlying5
 a5 := Tryz.isAgg5
 z5 := Tryz.sizeOf5
 v5 := Tryz.zeroValue5
 infoByte := by kernel_rfl
 cellsByte := by kernel_rfl
 sizeByte := by kernel_rfl
 neB5 := by decide }
open Go.RowKit in
theorem writeString_any (B b : Nat) (bs : List Value) (s : ByteArray) (w : World) (h : Lib.IsBuilder 144 5 B b bs w) (hlen : bs.length + s.size ≤ 140737488355328) (hBw : B ≤ w.heap.size) :
  Calls Tryz.prog 187 #[.pointer (some ⟨b, 0, none⟩), .string s] w fun e w' => e = .returned (.tuple #[.int .i64 s.size, .nilIface]) ∧ (Lib.BuilderAt 144 5 B b (.pointer (some ⟨b, 0, none⟩)) (bs ++ Lib.strCells s) w' ∧ Below B w w') := Any.Builder_WriteString ws_lays ws_extra B b bs s w h hlen hBw
end Go.Proofs.YtpiiemneelkpkaaGreatDoor
