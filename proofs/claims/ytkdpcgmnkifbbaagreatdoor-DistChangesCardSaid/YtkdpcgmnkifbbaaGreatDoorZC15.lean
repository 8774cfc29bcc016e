/- Joined by a program of this session out of its texts, with only what the last theorem needs: Sh. No conditions but those stated. -/
import Derived.Shelf.Strings.Builder1
import Derived.Shelf.Strings.Trim
import Derived.Shelf.Small.Utf8
import Derived.Shelf.Small.Strs
import Derived.Shelf.Strings.BuilderF
import Derived.Shelf.Strings.BuilderK
import Derived.Shelf.Strconv.Atoi
import Derived.Shelf.Strconv.Itoa0
import Derived.Shelf.Strconv.Itoa1
import Derived.Shelf.LaysM
import Derived.Shelf.Strconv.Itoa2
import Derived.Shelf.Strconv.Itoa3
import Derived.Shelf.Strings.Search1
import Derived.Shelf.Strings.Search2
import Derived.Shelf.Strings.Cut
import Derived.Shelf.Strings.Shaped
import Derived.Shelf.Unicode.Decode
import Derived.Shelf.Strings.Runes
import Derived.Shelf.Strings.AsciiSet
import Derived.Shelf.Unicode.DecodeSlow
import Derived.Shelf.Unicode.DecodeAny
import Derived.Shelf.Unicode.DecodeLast
import Derived.Test.YtkdpcgmnkifbbaaGreatDoorProg
import Derived.Shelf.Strings.SlTrimAscii
set_option linter.unusedVariables false
set_option linter.unusedSimpArgs false
namespace Go.Proofs
open Go.Shelf
def Tryz.lays169_ren : Go.Shelf.Ren := ⟨fun | 169 => 138 | n => n, fun | 70 => 160 | 9 => 9 | 0 => 0 | 72 => 163 | 37 => 161 | 127 => 176 | 3 => 3 | 5 => 5 | n => n, fun | n => n⟩
theorem Tryz.lays169 : Go.Proofs.Lays.n169 Tryz.prog Tryz.lays169_ren := {
 mixed := by kernel_rfl
 f169 := Tryz.func138.trans (congrArg some (by kernel_rfl))
 t0 := Tryz.underlying0
 a0 := Tryz.isAgg0
 z0 := Tryz.sizeOf0
 v0 := Tryz.zeroValue0
 t3 := Tryz.underlying3
 a3 := Tryz.isAgg3
 z3 := Tryz.sizeOf3
 v3 := Tryz.zeroValue3
 t9 := Tryz.underlying9
 a9 := Tryz.isAgg9
 z9 := Tryz.sizeOf9
 v9 := Tryz.zeroValue9
 t37 := Tryz.underlying161
 a37 := Tryz.isAgg161
 z37 := Tryz.sizeOf161
 v37 := Tryz.zeroValue161
 t70 := Tryz.underlying160
 a70 := Tryz.isAgg160
 z70 := Tryz.sizeOf160
 v70 := Tryz.zeroValue160
 t72 := Tryz.underlying163
 a72 := Tryz.isAgg163
 z72 := Tryz.sizeOf163
 v72 := Tryz.zeroValue163
 t127 := Tryz.underlying176
 a127 := Tryz.isAgg176
 z127 := Tryz.sizeOf176
 v127 := Tryz.zeroValue176 }
theorem Tryz.Builder_Extra_169 : Builder.Extra Tryz.prog Tryz.lays169_ren := {
 sizeBuilder := by kernel_rfl
 liesBuilder := by kernel_rfl
 t5 := Tryz.underlying5
 a5 := Tryz.isAgg5
 z5 := Tryz.sizeOf5
 v5 := Tryz.zeroValue5
 infoByte := by kernel_rfl
 cellsByte := by kernel_rfl
 sizeByte := by kernel_rfl
 neB5 := by decide }
def Tryz.lays106_ren : Go.Shelf.Ren := ⟨fun | 106 => 145 | 213 => 160 | 265 => 175 | n => n, fun | 9 => 9 | 3 => 3 | n => n, fun | n => n⟩
theorem Tryz.lays106 : Go.Proofs.Lays.n106 Tryz.prog Tryz.lays106_ren := {
 mixed := by kernel_rfl
 f106 := Tryz.func145.trans (congrArg some (by kernel_rfl))
 f213 := Tryz.func160.trans (congrArg some (by kernel_rfl))
 f265 := Tryz.func175.trans (congrArg some (by kernel_rfl))
 t3 := Tryz.underlying3
 a3 := Tryz.isAgg3
 z3 := Tryz.sizeOf3
 v3 := Tryz.zeroValue3
 t9 := Tryz.underlying9
 a9 := Tryz.isAgg9
 z9 := Tryz.sizeOf9
 v9 := Tryz.zeroValue9 }
open Go.RowKit in
theorem Tryz.strings_Compare (a b : ByteArray) (w : World) :
  Calls Tryz.prog 145 #[.string a, .string b] w fun e w' => e = .returned (.int .i64 (Lib.compareBytes a.data.toList b.data.toList)) ∧ w' = w := Any.strings_Compare Tryz.lays106 a b w
open Go.RowKit in
theorem Tryz.Builder_String_any_k (B b : Nat) (l : List UInt8) (w : World) (h : Lib.IsBuilderF 163 5 B b (Lib.byteCells l) w) (hBw : B ≤ w.heap.size) :
  Calls Tryz.prog 138 #[.pointer (some ⟨b, 0, none⟩)] w fun e w' => e = .returned (.string ⟨l.toArray⟩) ∧ (Lib.IsBuilderF 163 5 B b (Lib.byteCells l) w' ∧ Below B w w' ∧ Lib.OthersKept 5 (some b) w w') := Any.Builder_String_any_k Tryz.lays169 Tryz.Builder_Extra_169 B b l w h hBw
def Tryz.lays172_ren : Go.Shelf.Ren := ⟨fun | 172 => 130 | 244 => 155 | 245 => 156 | 247 => 165 | 279 => 166 | 280 => 167 | 281 => 168 | 282 => 169 | 287 => 182 | 316 => 183 | 171 => 119 | 205 => 184 | 321 => 192 | 322 => 193 | 243 => 148 | 246 => 161 | 283 => 176 | 284 => 177 | 285 => 178 | 286 => 179 | 129 => 188 | 317 => 187 | 318 => 189 | 319 => 190 | 320 => 191 | 337 => 194 | 338 => 195 | n => n, fun | 9 => 9 | 3 => 3 | 75 => 152 | 76 => 153 | 4 => 4 | 5 => 5 | 167 => 179 | 37 => 161 | 0 => 0 | 85 => 180 | 2 => 2 | 168 => 182 | 53 => 191 | 175 => 201 | 46 => 189 | 210 => 204 | 127 => 176 | 145 => 217 | 143 => 215 | 21 => 21 | 171 => 190 | 173 => 194 | 212 => 210 | 51 => 206 | 20 => 20 | 213 => 211 | 232 => 219 | 233 => 220 | 80 => 165 | n => n, fun | 15 => 3 | 16 => 4 | 17 => 5 | 18 => 6 | 19 => 7 | n => n⟩
theorem Tryz.lays172 : Go.Proofs.Lays.n172 Tryz.prog Tryz.lays172_ren := {
 mixed := by kernel_rfl
 f129 := Tryz.func188.trans (congrArg some (by kernel_rfl))
 f171 := Tryz.func119.trans (congrArg some (by kernel_rfl))
 f172 := Tryz.func130.trans (congrArg some (by kernel_rfl))
 f205 := Tryz.func184.trans (congrArg some (by kernel_rfl))
 f243 := Tryz.func148.trans (congrArg some (by kernel_rfl))
 f244 := Tryz.func155.trans (congrArg some (by kernel_rfl))
 f245 := Tryz.func156.trans (congrArg some (by kernel_rfl))
 f246 := Tryz.func161.trans (congrArg some (by kernel_rfl))
 f247 := Tryz.func165.trans (congrArg some (by kernel_rfl))
 f279 := Tryz.func166.trans (congrArg some (by kernel_rfl))
 f280 := Tryz.func167.trans (congrArg some (by kernel_rfl))
 f281 := Tryz.func168.trans (congrArg some (by kernel_rfl))
 f282 := Tryz.func169.trans (congrArg some (by kernel_rfl))
 f283 := Tryz.func176.trans (congrArg some (by kernel_rfl))
 f284 := Tryz.func177.trans (congrArg some (by kernel_rfl))
 f285 := Tryz.func178.trans (congrArg some (by kernel_rfl))
 f286 := Tryz.func179.trans (congrArg some (by kernel_rfl))
 f287 := Tryz.func182.trans (congrArg some (by kernel_rfl))
 f316 := Tryz.func183.trans (congrArg some (by kernel_rfl))
 f317 := Tryz.func187.trans (congrArg some (by kernel_rfl))
 f318 := Tryz.func189.trans (congrArg some (by kernel_rfl))
 f319 := Tryz.func190.trans (congrArg some (by kernel_rfl))
 f320 := Tryz.func191.trans (congrArg some (by kernel_rfl))
 f321 := Tryz.func192.trans (congrArg some (by kernel_rfl))
 f322 := Tryz.func193.trans (congrArg some (by kernel_rfl))
 f337 := Tryz.func194.trans (congrArg some (by kernel_rfl))
 f338 := Tryz.func195.trans (congrArg some (by kernel_rfl))
 t0 := Tryz.underlying0
 a0 := Tryz.isAgg0
 z0 := Tryz.sizeOf0
 v0 := Tryz.zeroValue0
 t2 := Tryz.underlying2
 a2 := Tryz.isAgg2
 z2 := Tryz.sizeOf2
 v2 := Tryz.zeroValue2
 t3 := Tryz.underlying3
 a3 := Tryz.isAgg3
 z3 := Tryz.sizeOf3
 v3 := Tryz.zeroValue3
 t4 := Tryz.underlying4
 a4 := Tryz.isAgg4
 z4 := Tryz.sizeOf4
 v4 := Tryz.zeroValue4
 t5 := Tryz.underlying5
 a5 := Tryz.isAgg5
 z5 := Tryz.sizeOf5
 v5 := Tryz.zeroValue5
 t9 := Tryz.underlying9
 a9 := Tryz.isAgg9
 z9 := Tryz.sizeOf9
 v9 := Tryz.zeroValue9
 t20 := Tryz.underlying20
 a20 := Tryz.isAgg20
 z20 := Tryz.sizeOf20
 v20 := Tryz.zeroValue20
 t21 := Tryz.underlying21
 a21 := Tryz.isAgg21
 z21 := Tryz.sizeOf21
 v21 := Tryz.zeroValue21
 t37 := Tryz.underlying161
 a37 := Tryz.isAgg161
 z37 := Tryz.sizeOf161
 v37 := Tryz.zeroValue161
 t46 := Tryz.underlying189
 a46 := Tryz.isAgg189
 z46 := Tryz.sizeOf189
 v46 := Tryz.zeroValue189
 t51 := Tryz.underlying206
 a51 := Tryz.isAgg206
 z51 := Tryz.sizeOf206
 v51 := Tryz.zeroValue206
 t53 := Tryz.underlying191
 a53 := Tryz.isAgg191
 z53 := Tryz.sizeOf191
 v53 := Tryz.zeroValue191
 t75 := Tryz.underlying152
 a75 := Tryz.isAgg152
 z75 := Tryz.sizeOf152
 v75 := Tryz.zeroValue152
 t76 := Tryz.underlying153
 a76 := Tryz.isAgg153
 z76 := Tryz.sizeOf153
 v76 := Tryz.zeroValue153
 t85 := Tryz.underlying180
 a85 := Tryz.isAgg180
 z85 := Tryz.sizeOf180
 v85 := Tryz.zeroValue180
 t127 := Tryz.underlying176
 a127 := Tryz.isAgg176
 z127 := Tryz.sizeOf176
 v127 := Tryz.zeroValue176
 t143 := Tryz.underlying215
 a143 := Tryz.isAgg215
 z143 := Tryz.sizeOf215
 v143 := Tryz.zeroValue215
 t145 := Tryz.underlying217
 a145 := Tryz.isAgg217
 z145 := Tryz.sizeOf217
 v145 := Tryz.zeroValue217
 t167 := Tryz.underlying179
 a167 := Tryz.isAgg179
 z167 := Tryz.sizeOf179
 v167 := Tryz.zeroValue179
 t168 := Tryz.underlying182
 a168 := Tryz.isAgg182
 z168 := Tryz.sizeOf182
 v168 := Tryz.zeroValue182
 t171 := Tryz.underlying190
 a171 := Tryz.isAgg190
 z171 := Tryz.sizeOf190
 v171 := Tryz.zeroValue190
 t173 := Tryz.underlying194
 a173 := Tryz.isAgg194
 z173 := Tryz.sizeOf194
 v173 := Tryz.zeroValue194
 t175 := Tryz.underlying201
 a175 := Tryz.isAgg201
 z175 := Tryz.sizeOf201
 v175 := Tryz.zeroValue201
 t210 := Tryz.underlying204
 a210 := Tryz.isAgg204
 z210 := Tryz.sizeOf204
 v210 := Tryz.zeroValue204
 t212 := Tryz.underlying210
 a212 := Tryz.isAgg210
 z212 := Tryz.sizeOf210
 v212 := Tryz.zeroValue210
 t213 := Tryz.underlying211
 a213 := Tryz.isAgg211
 z213 := Tryz.sizeOf211
 t232 := Tryz.underlying219
 a232 := Tryz.isAgg219
 z232 := Tryz.sizeOf219
 v232 := Tryz.zeroValue219
 t233 := Tryz.underlying220
 a233 := Tryz.isAgg220
 z233 := Tryz.sizeOf220
 v233 := Tryz.zeroValue220
 g15 := by kernel_rfl
 g16 := by kernel_rfl
 g17 := by kernel_rfl
 g18 := by kernel_rfl
 g19 := by kernel_rfl }
open Go.RowKit in
theorem Tryz.strconv_Atoi (s : ByteArray) (n : Int) (hl : s.size ≤ 18) (h : Lib.atoi s.data.toList = some n) (w : World) :
  Calls Tryz.prog 130 #[.string s] w fun e w' => e = .returned (.tuple #[.int .i64 n, .nilIface]) ∧ ∃ t, w' = Lib.bytesWorld w 5 t := Any.strconv_Atoi Tryz.lays172 s n hl h w
def Tryz.laysM171_ren : Go.Shelf.Ren := ⟨fun | 171 => 119 | 243 => 148 | 246 => 161 | 283 => 176 | 284 => 177 | 285 => 178 | 286 => 179 | 129 => 188 | 317 => 187 | 318 => 189 | 319 => 190 | 320 => 191 | 337 => 194 | 338 => 195 | n => n, fun | 3 => 3 | 9 => 9 | 2 => 2 | 4 => 4 | 171 => 190 | 0 => 0 | 53 => 191 | 37 => 161 | 5 => 5 | 173 => 194 | 212 => 210 | 51 => 206 | 20 => 20 | 213 => 211 | 46 => 189 | 232 => 219 | 233 => 220 | n => n, fun | 17 => 5 | 18 => 6 | 19 => 7 | n => n⟩
theorem Tryz.laysM171 : Go.Proofs.LaysM.n171 Tryz.prog Tryz.laysM171_ren := {
 mixed := by kernel_rfl
 f129 := Tryz.func188.trans (congrArg some (by kernel_rfl))
 f171 := Tryz.func119.trans (congrArg some (by kernel_rfl))
 f243 := Tryz.func148.trans (congrArg some (by kernel_rfl))
 f246 := Tryz.func161.trans (congrArg some (by kernel_rfl))
 f283 := Tryz.func176.trans (congrArg some (by kernel_rfl))
 f284 := Tryz.func177.trans (congrArg some (by kernel_rfl))
 f285 := Tryz.func178.trans (congrArg some (by kernel_rfl))
 f286 := Tryz.func179.trans (congrArg some (by kernel_rfl))
 f317 := Tryz.func187.trans (congrArg some (by kernel_rfl))
 f318 := Tryz.func189.trans (congrArg some (by kernel_rfl))
 f319 := Tryz.func190.trans (congrArg some (by kernel_rfl))
 f320 := Tryz.func191.trans (congrArg some (by kernel_rfl))
 f337 := Tryz.func194.trans (congrArg some (by kernel_rfl))
 f338 := Tryz.func195.trans (congrArg some (by kernel_rfl))
 t0 := Tryz.underlying0
 a0 := Tryz.isAgg0
 z0 := Tryz.sizeOf0
 v0 := Tryz.zeroValue0
 t2 := Tryz.underlying2
 a2 := Tryz.isAgg2
 z2 := Tryz.sizeOf2
 v2 := Tryz.zeroValue2
 t3 := Tryz.underlying3
 a3 := Tryz.isAgg3
 z3 := Tryz.sizeOf3
 v3 := Tryz.zeroValue3
 t4 := Tryz.underlying4
 a4 := Tryz.isAgg4
 z4 := Tryz.sizeOf4
 v4 := Tryz.zeroValue4
 t5 := Tryz.underlying5
 a5 := Tryz.isAgg5
 z5 := Tryz.sizeOf5
 v5 := Tryz.zeroValue5
 t9 := Tryz.underlying9
 a9 := Tryz.isAgg9
 z9 := Tryz.sizeOf9
 v9 := Tryz.zeroValue9
 t20 := Tryz.underlying20
 a20 := Tryz.isAgg20
 z20 := Tryz.sizeOf20
 v20 := Tryz.zeroValue20
 t37 := Tryz.underlying161
 a37 := Tryz.isAgg161
 z37 := Tryz.sizeOf161
 v37 := Tryz.zeroValue161
 t46 := Tryz.underlying189
 a46 := Tryz.isAgg189
 z46 := Tryz.sizeOf189
 v46 := Tryz.zeroValue189
 t51 := Tryz.underlying206
 a51 := Tryz.isAgg206
 z51 := Tryz.sizeOf206
 v51 := Tryz.zeroValue206
 t53 := Tryz.underlying191
 a53 := Tryz.isAgg191
 z53 := Tryz.sizeOf191
 v53 := Tryz.zeroValue191
 t171 := Tryz.underlying190
 a171 := Tryz.isAgg190
 z171 := Tryz.sizeOf190
 v171 := Tryz.zeroValue190
 t173 := Tryz.underlying194
 a173 := Tryz.isAgg194
 z173 := Tryz.sizeOf194
 v173 := Tryz.zeroValue194
 t212 := Tryz.underlying210
 a212 := Tryz.isAgg210
 z212 := Tryz.sizeOf210
 v212 := Tryz.zeroValue210
 t213 := Tryz.underlying211
 a213 := Tryz.isAgg211
 z213 := Tryz.sizeOf211
 t232 := Tryz.underlying219
 a232 := Tryz.isAgg219
 z232 := Tryz.sizeOf219
 v232 := Tryz.zeroValue219
 t233 := Tryz.underlying220
 a233 := Tryz.isAgg220
 z233 := Tryz.sizeOf220
 v233 := Tryz.zeroValue220
 g17 := by kernel_rfl
 g18 := by kernel_rfl
 g19 := by kernel_rfl
 i0 := by kernel_rfl
 i2 := by kernel_rfl
 i3 := by kernel_rfl
 i4 := by kernel_rfl
 i5 := by kernel_rfl
 i9 := by kernel_rfl
 i20 := by kernel_rfl
 i37 := by kernel_rfl
 i46 := by kernel_rfl
 i51 := by kernel_rfl
 i53 := by kernel_rfl
 i171 := by kernel_rfl
 i173 := by kernel_rfl
 i212 := by kernel_rfl
 i232 := by kernel_rfl
 i233 := by kernel_rfl
 m17 := by kernel_rfl
 m18 := by kernel_rfl
 m19 := by kernel_rfl }
open Go.RowKit Go.Sort Go.Lib in
theorem Tryz.strconv_Itoa (n : Int) (h0 : -9223372036854775808 ≤ n) (h1 : n ≤ 9223372036854775807) (w : World) (htab : Lib.TabIs Tryz.prog w "internal/strconv.uint64pow10" .u64 Lib.pow10Tab) :
  Calls Tryz.prog 119 #[.int .i64 n] w fun e w' => e = .returned (.string ⟨(Lib.itoa n).toArray⟩) ∧ ∃ k os, w' = grow (w.drewN k) os := Any.strconv_Itoa Tryz.laysM171 n h0 h1 w htab
def Tryz.lays219_ren : Go.Shelf.Ren := ⟨fun | 219 => 159 | 217 => 171 | 225 => 172 | 224 => 173 | 267 => 174 | 266 => 185 | 314 => 186 | n => n, fun | 9 => 9 | 3 => 3 | 4 => 4 | 5 => 5 | 46 => 189 | 146 => 207 | 51 => 206 | n => n, fun | 1 => 0 | n => n⟩
theorem Tryz.lays219 : Go.Proofs.Lays.n219 Tryz.prog Tryz.lays219_ren := {
 mixed := by kernel_rfl
 f217 := Tryz.func171.trans (congrArg some (by kernel_rfl))
 f219 := Tryz.func159.trans (congrArg some (by kernel_rfl))
 f224 := Tryz.func173.trans (congrArg some (by kernel_rfl))
 f225 := Tryz.func172.trans (congrArg some (by kernel_rfl))
 f266 := Tryz.func185.trans (congrArg some (by kernel_rfl))
 f267 := Tryz.func174.trans (congrArg some (by kernel_rfl))
 f314 := Tryz.func186.trans (congrArg some (by kernel_rfl))
 t3 := Tryz.underlying3
 a3 := Tryz.isAgg3
 z3 := Tryz.sizeOf3
 v3 := Tryz.zeroValue3
 t4 := Tryz.underlying4
 a4 := Tryz.isAgg4
 z4 := Tryz.sizeOf4
 v4 := Tryz.zeroValue4
 t5 := Tryz.underlying5
 a5 := Tryz.isAgg5
 z5 := Tryz.sizeOf5
 v5 := Tryz.zeroValue5
 t9 := Tryz.underlying9
 a9 := Tryz.isAgg9
 z9 := Tryz.sizeOf9
 v9 := Tryz.zeroValue9
 t46 := Tryz.underlying189
 a46 := Tryz.isAgg189
 z46 := Tryz.sizeOf189
 v46 := Tryz.zeroValue189
 t51 := Tryz.underlying206
 a51 := Tryz.isAgg206
 z51 := Tryz.sizeOf206
 v51 := Tryz.zeroValue206
 t146 := Tryz.underlying207
 a146 := Tryz.isAgg207
 z146 := Tryz.sizeOf207
 v146 := Tryz.zeroValue207
 g1 := by kernel_rfl }
open Go.RowKit Go.Lib in
theorem Tryz.stringslite_Index_one (s : ByteArray) (c : UInt8) (w : World) :
  Calls Tryz.prog 159 #[.string s, .string ⟨#[c]⟩] w fun e w' => e = .returned (.int .i64 (Lib.indexByte s.data.toList c)) ∧ w' = w := Any.stringslite_Index_one Tryz.lays219 s c w
def Tryz.lays160b_ren : Go.Shelf.Ren := ⟨fun | 160 => 88 | 232 => 123 | 231 => 122 | 227 => 124 | 234 => 126 | 233 => 125 | 236 => 128 | 235 => 127 | 228 => 151 | 271 => 154 | 151 => 153 | 197 => 152 | 120 => 164 | 152 => 163 | 260 => 162 | 137 => 180 | 119 => 181 | 224 => 173 | 225 => 172 | 217 => 171 | 266 => 185 | n => n, fun | 9 => 9 | 4 => 4 | 3 => 3 | 5 => 5 | 117 => 146 | 116 => 145 | 0 => 0 | 124 => 149 | 21 => 21 | 105 => 171 | 46 => 189 | 119 => 196 | 139 => 199 | 138 => 198 | n => n, fun | 3 => 1 | 4 => 2 | n => n⟩
theorem Tryz.lays160b : Go.Proofs.Lays.n160 Tryz.prog Tryz.lays160b_ren := {
 mixed := by kernel_rfl
 f119 := Tryz.func181.trans (congrArg some (by kernel_rfl))
 f120 := Tryz.func164.trans (congrArg some (by kernel_rfl))
 f137 := Tryz.func180.trans (congrArg some (by kernel_rfl))
 f151 := Tryz.func153.trans (congrArg some (by kernel_rfl))
 f152 := Tryz.func163.trans (congrArg some (by kernel_rfl))
 f160 := Tryz.func88.trans (congrArg some (by kernel_rfl))
 f197 := Tryz.func152.trans (congrArg some (by kernel_rfl))
 f217 := Tryz.func171.trans (congrArg some (by kernel_rfl))
 f224 := Tryz.func173.trans (congrArg some (by kernel_rfl))
 f225 := Tryz.func172.trans (congrArg some (by kernel_rfl))
 f227 := Tryz.func124.trans (congrArg some (by kernel_rfl))
 f228 := Tryz.func151.trans (congrArg some (by kernel_rfl))
 f231 := Tryz.func122.trans (congrArg some (by kernel_rfl))
 f232 := Tryz.func123.trans (congrArg some (by kernel_rfl))
 f233 := Tryz.func125.trans (congrArg some (by kernel_rfl))
 f234 := Tryz.func126.trans (congrArg some (by kernel_rfl))
 f235 := Tryz.func127.trans (congrArg some (by kernel_rfl))
 f236 := Tryz.func128.trans (congrArg some (by kernel_rfl))
 f260 := Tryz.func162.trans (congrArg some (by kernel_rfl))
 f266 := Tryz.func185.trans (congrArg some (by kernel_rfl))
 f271 := Tryz.func154.trans (congrArg some (by kernel_rfl))
 t0 := Tryz.underlying0
 a0 := Tryz.isAgg0
 z0 := Tryz.sizeOf0
 v0 := Tryz.zeroValue0
 t3 := Tryz.underlying3
 a3 := Tryz.isAgg3
 z3 := Tryz.sizeOf3
 v3 := Tryz.zeroValue3
 t4 := Tryz.underlying4
 a4 := Tryz.isAgg4
 z4 := Tryz.sizeOf4
 v4 := Tryz.zeroValue4
 t5 := Tryz.underlying5
 a5 := Tryz.isAgg5
 z5 := Tryz.sizeOf5
 v5 := Tryz.zeroValue5
 t9 := Tryz.underlying9
 a9 := Tryz.isAgg9
 z9 := Tryz.sizeOf9
 v9 := Tryz.zeroValue9
 t21 := Tryz.underlying21
 a21 := Tryz.isAgg21
 z21 := Tryz.sizeOf21
 v21 := Tryz.zeroValue21
 t46 := Tryz.underlying189
 a46 := Tryz.isAgg189
 z46 := Tryz.sizeOf189
 v46 := Tryz.zeroValue189
 t105 := Tryz.underlying171
 a105 := Tryz.isAgg171
 z105 := Tryz.sizeOf171
 v105 := Tryz.zeroValue171
 t116 := Tryz.underlying145
 a116 := Tryz.isAgg145
 z116 := Tryz.sizeOf145
 t117 := Tryz.underlying146
 a117 := Tryz.isAgg146
 z117 := Tryz.sizeOf146
 v117 := Tryz.zeroValue146
 t119 := Tryz.underlying196
 a119 := Tryz.isAgg196
 z119 := Tryz.sizeOf196
 t124 := Tryz.underlying149
 a124 := Tryz.isAgg149
 z124 := Tryz.sizeOf149
 v124 := Tryz.zeroValue149
 t138 := Tryz.underlying198
 a138 := Tryz.isAgg198
 z138 := Tryz.sizeOf198
 v138 := Tryz.zeroValue198
 t139 := Tryz.underlying199
 a139 := Tryz.isAgg199
 z139 := Tryz.sizeOf199
 v139 := Tryz.zeroValue199
 g3 := by kernel_rfl
 g4 := by kernel_rfl }
end Go.Proofs
