import Derived.Shelf.Strings.Builder1
import Derived.Shelf.Strings.Builder2
import Derived.Shelf.Strings.OnBuilder
import Derived.Shelf.Strings.Trim
import Derived.Shelf.Small.Utf8
import Derived.Shelf.Small.Strs
import Derived.Shelf.Small.Wraps
import Derived.Shelf.Strings.BuilderF
import Derived.Shelf.Strings.BuilderK
import Derived.Shelf.Strings.Builder2Cap
import Derived.Shelf.Strconv.Itoa0
import Derived.Shelf.Strconv.Itoa1
import Derived.Shelf.LaysM
import Derived.Shelf.Strconv.Itoa2
import Derived.Shelf.Strconv.Itoa3
import Derived.Shelf.Strconv.Itoa4
import Derived.Shelf.Strconv.ParseIntEmpty
import Derived.Shelf.Strconv.Clone
import Derived.Shelf.Strconv.SyntaxError
import Derived.Shelf.LaysC
import Derived.Shelf.Strconv.ToError
import Derived.Shelf.Strconv.Lower
import Derived.Shelf.Strconv.ParseUint10
import Derived.Shelf.Strconv.ParseUint10Empty
import Derived.Shelf.Strconv.ParseUint10Any
import Derived.Shelf.Strconv.ParseInt10
import Derived.Shelf.Strconv.RangeError
import Derived.Shelf.Strconv.ToErrorRange
import Derived.Shelf.Strconv.ParseUintEmpty
import Derived.Shelf.Strconv.ParseUint10b64
import Derived.Shelf.Strconv.ParseUint10b32
import Derived.Shelf.Strconv.ParseUint10b16
import Derived.Shelf.Strconv.ParseUint10b8
import Derived.Shelf.Strconv.ParseUint10At
import Derived.Shelf.Strconv.ParseInt10At64
import Derived.Shelf.Strconv.ParseInt10At32
import Derived.Shelf.Strconv.ParseInt10At16
import Derived.Shelf.Strconv.ParseInt10At8
import Derived.Shelf.Strconv.ParseInt10All
import Derived.Shelf.Strconv.ParseIntPublic10
import Derived.Shelf.Strings.Search1
import Derived.Shelf.Strings.Prefix
import Derived.Shelf.Unicode.Decode
import Derived.Shelf.Strings.Runes
import Derived.Shelf.Strings.AsciiSet
import Derived.Shelf.Unicode.DecodeSlow
import Derived.Shelf.Unicode.DecodeAny
import Derived.Shelf.Unicode.DecodeLast
import Derived.Shelf.Strings.BuilderCap
import Derived.Shelf.Slices.Turned
import Derived.Ground.Names2Prog
import Derived.Shelf.Slices.SearchI
import Derived.Ground.SlgnProg
import Derived.Shelf.SlicesG.SearchI
import Derived.Ground.SlgcProg
import Derived.Shelf.SlicesG.Cmp
import Derived.Test.YtlakiipofcibhaaGreatDoorProg
set_option linter.unusedVariables false
set_option linter.unusedSimpArgs false
set_option linter.unusedSectionVars false

set_option linter.unusedVariables false
set_option linter.unusedSimpArgs false
set_option linter.unusedSectionVars false
/-
  DERIVED: THE SHELF's CONTRACTS AT THIS DUMP, IN PLAIN WORDS (tools/lay-plain.mjs out of 'TryzShelf.lean', which tools/lay-shelf.mjs wrote): THE SAME DECLARATIONS UNDER THE SAME NAMES: 'import', 'namespace', 'open', 'def', 'theorem' AND NOTHING ELSE: no command of the shelf's: FOR A HAND-IN. Each laying: the table of numbers ('.._ren') and one theorem, a field a fact of the dump's own or the kernel's comparison; each contract: ONE APPLICATION.
-/
namespace Go.Proofs
open Go.Shelf
def Tryz.lays156_ren : Go.Shelf.Ren := ⟨fun | 156 => 150 | 165 => 162 | 166 => 163 | 169 => 164 | 240 => 184 | 241 => 185 | 276 => 208 | 277 => 209 | n => n, fun | 31 => 23 | 9 => 9 | 3 => 3 | 4 => 4 | 0 => 0 | 20 => 20 | 72 => 195 | 76 => 197 | 70 => 193 | 37 => 158 | 75 => 189 | 127 => 216 | 164 => 232 | 5 => 5 | 80 => 170 | n => n, fun | n => n⟩
theorem Tryz.lays156 : Go.Proofs.Lays.n156 Tryz.prog Tryz.lays156_ren := {
  mixed := by kernel_rfl
  f156 := Tryz.func150.trans (congrArg some (by kernel_rfl))
  f165 := Tryz.func162.trans (congrArg some (by kernel_rfl))
  f166 := Tryz.func163.trans (congrArg some (by kernel_rfl))
  f169 := Tryz.func164.trans (congrArg some (by kernel_rfl))
  f240 := Tryz.func184.trans (congrArg some (by kernel_rfl))
  f241 := Tryz.func185.trans (congrArg some (by kernel_rfl))
  f276 := Tryz.func208.trans (congrArg some (by kernel_rfl))
  f277 := Tryz.func209.trans (congrArg some (by kernel_rfl))
  t0 := Tryz.underlying0
  a0 := Tryz.isAgg0
  z0 := Tryz.sizeOf0
  v0 := Tryz.zeroValue0
  t3 := Tryz.underlying3
  a3 := Tryz.isAgg3
  z3 := Tryz.sizeOf3
  v3 := Tryz.zeroValue3
  t4 := Tryz.underlying4
  a4 := Tryz.isAgg4
  z4 := Tryz.sizeOf4
  v4 := Tryz.zeroValue4
  t9 := Tryz.underlying9
  a9 := Tryz.isAgg9
  z9 := Tryz.sizeOf9
  v9 := Tryz.zeroValue9
  t20 := Tryz.underlying20
  a20 := Tryz.isAgg20
  z20 := Tryz.sizeOf20
  v20 := Tryz.zeroValue20
  t31 := Tryz.underlying23
  a31 := Tryz.isAgg23
  z31 := Tryz.sizeOf23
  v31 := Tryz.zeroValue23
  t37 := Tryz.underlying158
  a37 := Tryz.isAgg158
  z37 := Tryz.sizeOf158
  v37 := Tryz.zeroValue158
  t70 := Tryz.underlying193
  a70 := Tryz.isAgg193
  z70 := Tryz.sizeOf193
  v70 := Tryz.zeroValue193
  t72 := Tryz.underlying195
  a72 := Tryz.isAgg195
  z72 := Tryz.sizeOf195
  v72 := Tryz.zeroValue195
  t75 := Tryz.underlying189
  a75 := Tryz.isAgg189
  z75 := Tryz.sizeOf189
  v75 := Tryz.zeroValue189
  t76 := Tryz.underlying197
  a76 := Tryz.isAgg197
  z76 := Tryz.sizeOf197
  v76 := Tryz.zeroValue197
  t127 := Tryz.underlying216
  a127 := Tryz.isAgg216
  z127 := Tryz.sizeOf216
  v127 := Tryz.zeroValue216
  t164 := Tryz.underlying232
  a164 := Tryz.isAgg232
  z164 := Tryz.sizeOf232
  v164 := Tryz.zeroValue232 }
theorem Tryz.Builder_Extra_156 : Builder.Extra Tryz.prog Tryz.lays156_ren := {
  sizeBuilder := by kernel_rfl
  liesBuilder := by kernel_rfl
  t5 := Tryz.underlying5
  a5 := Tryz.isAgg5
  z5 := Tryz.sizeOf5
  v5 := Tryz.zeroValue5
  infoByte := by kernel_rfl
  cellsByte := by kernel_rfl
  sizeByte := by kernel_rfl
  neB5 := by decide }
open Go.RowKit in
theorem Tryz.strings_Join_none (a : Option Addr) (c : Nat) (sep : ByteArray) (w : World) :
    Calls Tryz.prog 150 #[.slice a 0 c, .string sep] w fun e w' => e = .returned (.string ⟨#[]⟩) ∧ w' = w := Any.strings_Join_none Tryz.lays156 Tryz.Builder_Extra_156 a c sep w
open Go.RowKit in
theorem Tryz.strings_Join (bk o c : Nat) (xs : List ByteArray) (sep : ByteArray) (w : World) (hcells : ∀ (j : Nat) x, xs[j]? = some x → w.cell? ⟨bk, o + j, none⟩ = some (.string x)) (hbk : bk < w.heap.size) (hN : xs.length ≤ 140737488355328) (hcap : xs.length ≤ c) (hlen : (Lib.join (xs.map (·.data.toList)) sep.data.toList).length ≤ 140737488355328) :
    Calls Tryz.prog 150 #[.slice (some ⟨bk, o, none⟩) xs.length c, .string sep] w fun e w' => e = .returned (.string ⟨(Lib.join (xs.map (·.data.toList)) sep.data.toList).toArray⟩) ∧ Below w.heap.size w w' := Any.strings_Join Tryz.lays156 Tryz.Builder_Extra_156 bk o c xs sep w hcells hbk hN hcap hlen
def Tryz.lays160_ren : Go.Shelf.Ren := ⟨fun | 160 => 156 | 232 => 171 | 231 => 170 | 227 => 172 | 234 => 174 | 233 => 173 | 236 => 176 | 235 => 175 | 228 => 194 | 271 => 197 | 151 => 196 | 197 => 195 | 120 => 213 | 152 => 212 | 260 => 211 | 137 => 127 | 119 => 225 | 224 => 226 | 225 => 227 | 217 => 154 | 266 => 168 | n => n, fun | 9 => 9 | 4 => 4 | 3 => 3 | 5 => 5 | 117 => 204 | 116 => 203 | 0 => 0 | 124 => 207 | 21 => 21 | 105 => 218 | 46 => 181 | 119 => 244 | 139 => 247 | 138 => 246 | n => n, fun | 3 => 4 | 4 => 5 | n => n⟩
theorem Tryz.lays160 : Go.Proofs.Lays.n160 Tryz.prog Tryz.lays160_ren := {
  mixed := by kernel_rfl
  f119 := Tryz.func225.trans (congrArg some (by kernel_rfl))
  f120 := Tryz.func213.trans (congrArg some (by kernel_rfl))
  f137 := Tryz.func127.trans (congrArg some (by kernel_rfl))
  f151 := Tryz.func196.trans (congrArg some (by kernel_rfl))
  f152 := Tryz.func212.trans (congrArg some (by kernel_rfl))
  f160 := Tryz.func156.trans (congrArg some (by kernel_rfl))
  f197 := Tryz.func195.trans (congrArg some (by kernel_rfl))
  f217 := Tryz.func154.trans (congrArg some (by kernel_rfl))
  f224 := Tryz.func226.trans (congrArg some (by kernel_rfl))
  f225 := Tryz.func227.trans (congrArg some (by kernel_rfl))
  f227 := Tryz.func172.trans (congrArg some (by kernel_rfl))
  f228 := Tryz.func194.trans (congrArg some (by kernel_rfl))
  f231 := Tryz.func170.trans (congrArg some (by kernel_rfl))
  f232 := Tryz.func171.trans (congrArg some (by kernel_rfl))
  f233 := Tryz.func173.trans (congrArg some (by kernel_rfl))
  f234 := Tryz.func174.trans (congrArg some (by kernel_rfl))
  f235 := Tryz.func175.trans (congrArg some (by kernel_rfl))
  f236 := Tryz.func176.trans (congrArg some (by kernel_rfl))
  f260 := Tryz.func211.trans (congrArg some (by kernel_rfl))
  f266 := Tryz.func168.trans (congrArg some (by kernel_rfl))
  f271 := Tryz.func197.trans (congrArg some (by kernel_rfl))
  t0 := Tryz.underlying0
  a0 := Tryz.isAgg0
  z0 := Tryz.sizeOf0
  v0 := Tryz.zeroValue0
  t3 := Tryz.underlying3
  a3 := Tryz.isAgg3
  z3 := Tryz.sizeOf3
  v3 := Tryz.zeroValue3
  t4 := Tryz.underlying4
  a4 := Tryz.isAgg4
  z4 := Tryz.sizeOf4
  v4 := Tryz.zeroValue4
  t5 := Tryz.underlying5
  a5 := Tryz.isAgg5
  z5 := Tryz.sizeOf5
  v5 := Tryz.zeroValue5
  t9 := Tryz.underlying9
  a9 := Tryz.isAgg9
  z9 := Tryz.sizeOf9
  v9 := Tryz.zeroValue9
  t21 := Tryz.underlying21
  a21 := Tryz.isAgg21
  z21 := Tryz.sizeOf21
  v21 := Tryz.zeroValue21
  t46 := Tryz.underlying181
  a46 := Tryz.isAgg181
  z46 := Tryz.sizeOf181
  v46 := Tryz.zeroValue181
  t105 := Tryz.underlying218
  a105 := Tryz.isAgg218
  z105 := Tryz.sizeOf218
  v105 := Tryz.zeroValue218
  t116 := Tryz.underlying203
  a116 := Tryz.isAgg203
  z116 := Tryz.sizeOf203
  t117 := Tryz.underlying204
  a117 := Tryz.isAgg204
  z117 := Tryz.sizeOf204
  v117 := Tryz.zeroValue204
  t119 := Tryz.underlying244
  a119 := Tryz.isAgg244
  z119 := Tryz.sizeOf244
  t124 := Tryz.underlying207
  a124 := Tryz.isAgg207
  z124 := Tryz.sizeOf207
  v124 := Tryz.zeroValue207
  t138 := Tryz.underlying246
  a138 := Tryz.isAgg246
  z138 := Tryz.sizeOf246
  v138 := Tryz.zeroValue246
  t139 := Tryz.underlying247
  a139 := Tryz.isAgg247
  z139 := Tryz.sizeOf247
  v139 := Tryz.zeroValue247
  g3 := by kernel_rfl
  g4 := by kernel_rfl }
def Tryz.lays137_ren : Go.Shelf.Ren := ⟨fun | 137 => 127 | 217 => 154 | 266 => 168 | n => n, fun | 9 => 9 | 5 => 5 | 3 => 3 | n => n, fun | n => n⟩
theorem Tryz.lays137 : Go.Proofs.Lays.n137 Tryz.prog Tryz.lays137_ren := {
  mixed := by kernel_rfl
  f137 := Tryz.func127.trans (congrArg some (by kernel_rfl))
  f217 := Tryz.func154.trans (congrArg some (by kernel_rfl))
  f266 := Tryz.func168.trans (congrArg some (by kernel_rfl))
  t3 := Tryz.underlying3
  a3 := Tryz.isAgg3
  z3 := Tryz.sizeOf3
  v3 := Tryz.zeroValue3
  t5 := Tryz.underlying5
  a5 := Tryz.isAgg5
  z5 := Tryz.sizeOf5
  v5 := Tryz.zeroValue5
  t9 := Tryz.underlying9
  a9 := Tryz.isAgg9
  z9 := Tryz.sizeOf9
  v9 := Tryz.zeroValue9 }
open Go.RowKit in
theorem Tryz.strings_IndexByte (s : ByteArray) (c : Int) (w : World) :
    Calls Tryz.prog 127 #[.string s, .int .u8 c] w fun e w' => e = .returned (.int .i64 (Lib.indexByte s.data.toList c.toNat.toUInt8)) ∧ w' = w := Any.strings_IndexByte Tryz.lays137 s c w
def Tryz.laysM173_ren : Go.Shelf.Ren := ⟨fun | 173 => 147 | 246 => 161 | 283 => 180 | 284 => 181 | 285 => 182 | 286 => 183 | 129 => 204 | 317 => 203 | 318 => 205 | 319 => 206 | 320 => 207 | 337 => 219 | 338 => 220 | n => n, fun | 2 => 2 | 3 => 3 | 9 => 9 | 4 => 4 | 171 => 210 | 0 => 0 | 53 => 211 | 37 => 158 | 5 => 5 | 173 => 214 | 212 => 228 | 51 => 229 | 20 => 20 | 213 => 230 | 46 => 181 | 232 => 252 | 233 => 253 | n => n, fun | 17 => 1 | 18 => 6 | 19 => 7 | n => n⟩
theorem Tryz.laysM173 : Go.Proofs.LaysM.n173 Tryz.prog Tryz.laysM173_ren := {
  mixed := by kernel_rfl
  f129 := Tryz.func204.trans (congrArg some (by kernel_rfl))
  f173 := Tryz.func147.trans (congrArg some (by kernel_rfl))
  f246 := Tryz.func161.trans (congrArg some (by kernel_rfl))
  f283 := Tryz.func180.trans (congrArg some (by kernel_rfl))
  f284 := Tryz.func181.trans (congrArg some (by kernel_rfl))
  f285 := Tryz.func182.trans (congrArg some (by kernel_rfl))
  f286 := Tryz.func183.trans (congrArg some (by kernel_rfl))
  f317 := Tryz.func203.trans (congrArg some (by kernel_rfl))
  f318 := Tryz.func205.trans (congrArg some (by kernel_rfl))
  f319 := Tryz.func206.trans (congrArg some (by kernel_rfl))
  f320 := Tryz.func207.trans (congrArg some (by kernel_rfl))
  f337 := Tryz.func219.trans (congrArg some (by kernel_rfl))
  f338 := Tryz.func220.trans (congrArg some (by kernel_rfl))
  t0 := Tryz.underlying0
  a0 := Tryz.isAgg0
  z0 := Tryz.sizeOf0
  v0 := Tryz.zeroValue0
  t2 := Tryz.underlying2
  a2 := Tryz.isAgg2
  z2 := Tryz.sizeOf2
  v2 := Tryz.zeroValue2
  t3 := Tryz.underlying3
  a3 := Tryz.isAgg3
  z3 := Tryz.sizeOf3
  v3 := Tryz.zeroValue3
  t4 := Tryz.underlying4
  a4 := Tryz.isAgg4
  z4 := Tryz.sizeOf4
  v4 := Tryz.zeroValue4
  t5 := Tryz.underlying5
  a5 := Tryz.isAgg5
  z5 := Tryz.sizeOf5
  v5 := Tryz.zeroValue5
  t9 := Tryz.underlying9
  a9 := Tryz.isAgg9
  z9 := Tryz.sizeOf9
  v9 := Tryz.zeroValue9
  t20 := Tryz.underlying20
  a20 := Tryz.isAgg20
  z20 := Tryz.sizeOf20
  v20 := Tryz.zeroValue20
  t37 := Tryz.underlying158
  a37 := Tryz.isAgg158
  z37 := Tryz.sizeOf158
  v37 := Tryz.zeroValue158
  t46 := Tryz.underlying181
  a46 := Tryz.isAgg181
  z46 := Tryz.sizeOf181
  v46 := Tryz.zeroValue181
  t51 := Tryz.underlying229
  a51 := Tryz.isAgg229
  z51 := Tryz.sizeOf229
  v51 := Tryz.zeroValue229
  t53 := Tryz.underlying211
  a53 := Tryz.isAgg211
  z53 := Tryz.sizeOf211
  v53 := Tryz.zeroValue211
  t171 := Tryz.underlying210
  a171 := Tryz.isAgg210
  z171 := Tryz.sizeOf210
  v171 := Tryz.zeroValue210
  t173 := Tryz.underlying214
  a173 := Tryz.isAgg214
  z173 := Tryz.sizeOf214
  v173 := Tryz.zeroValue214
  t212 := Tryz.underlying228
  a212 := Tryz.isAgg228
  z212 := Tryz.sizeOf228
  v212 := Tryz.zeroValue228
  t213 := Tryz.underlying230
  a213 := Tryz.isAgg230
  z213 := Tryz.sizeOf230
  t232 := Tryz.underlying252
  a232 := Tryz.isAgg252
  z232 := Tryz.sizeOf252
  v232 := Tryz.zeroValue252
  t233 := Tryz.underlying253
  a233 := Tryz.isAgg253
  z233 := Tryz.sizeOf253
  v233 := Tryz.zeroValue253
  g17 := by kernel_rfl
  g18 := by kernel_rfl
  g19 := by kernel_rfl
  i0 := by kernel_rfl
  i2 := by kernel_rfl
  i3 := by kernel_rfl
  i4 := by kernel_rfl
  i5 := by kernel_rfl
  i9 := by kernel_rfl
  i20 := by kernel_rfl
  i37 := by kernel_rfl
  i46 := by kernel_rfl
  i51 := by kernel_rfl
  i53 := by kernel_rfl
  i171 := by kernel_rfl
  i173 := by kernel_rfl
  i212 := by kernel_rfl
  i232 := by kernel_rfl
  i233 := by kernel_rfl
  m17 := by kernel_rfl
  m18 := by kernel_rfl
  m19 := by kernel_rfl }
open Go.RowKit Go.Sort Go.Lib in
theorem Tryz.strconv_FormatInt_10 (n : Int) (h0 : -9223372036854775808 ≤ n) (h1 : n ≤ 9223372036854775807) (w : World) (htab : Lib.TabIs Tryz.prog w "internal/strconv.uint64pow10" .u64 Lib.pow10Tab) :
    Calls Tryz.prog 147 #[.int .i64 n, .int .i64 10] w fun e w' => e = .returned (.string ⟨(Lib.itoa n).toArray⟩) ∧ ∃ k os, w' = grow (w.drewN k) os := Any.strconv_FormatInt_10 Tryz.laysM173 n h0 h1 w htab
def Tryz.laysC174_ren : Go.Shelf.Ren := ⟨fun | 174 => 157 | 247 => 177 | 245 => 178 | 287 => 198 | 279 => 199 | 280 => 200 | 281 => 201 | 282 => 202 | 321 => 214 | 322 => 215 | 316 => 216 | 171 => 218 | 205 => 217 | 243 => 228 | 246 => 161 | 283 => 180 | 284 => 181 | 285 => 182 | 286 => 183 | 129 => 204 | 317 => 203 | 318 => 205 | 319 => 206 | 320 => 207 | 337 => 219 | 338 => 220 | n => n, fun | 9 => 9 | 3 => 3 | 2 => 2 | 75 => 189 | 85 => 190 | 4 => 4 | 167 => 221 | 5 => 5 | 53 => 211 | 175 => 222 | 46 => 181 | 168 => 224 | 37 => 158 | 0 => 0 | 210 => 239 | 21 => 21 | 127 => 216 | 145 => 251 | 143 => 249 | 171 => 210 | 173 => 214 | 212 => 228 | 51 => 229 | 20 => 20 | 213 => 230 | 232 => 252 | 233 => 253 | 80 => 170 | n => n, fun | 15 => 2 | 16 => 3 | 17 => 1 | 18 => 6 | 19 => 7 | n => n⟩
theorem Tryz.laysC174 : Go.Proofs.LaysC.n174 Tryz.prog Tryz.laysC174_ren := {
  mixed := by kernel_rfl
  f129 := Tryz.func204.trans (congrArg some (by kernel_rfl))
  f171 := Tryz.func218.trans (congrArg some (by kernel_rfl))
  f174 := Tryz.func157.trans (congrArg some (by kernel_rfl))
  f205 := Tryz.func217.trans (congrArg some (by kernel_rfl))
  f243 := Tryz.func228.trans (congrArg some (by kernel_rfl))
  f245 := Tryz.func178.trans (congrArg some (by kernel_rfl))
  f246 := Tryz.func161.trans (congrArg some (by kernel_rfl))
  f247 := Tryz.func177.trans (congrArg some (by kernel_rfl))
  f279 := Tryz.func199.trans (congrArg some (by kernel_rfl))
  f280 := Tryz.func200.trans (congrArg some (by kernel_rfl))
  f281 := Tryz.func201.trans (congrArg some (by kernel_rfl))
  f282 := Tryz.func202.trans (congrArg some (by kernel_rfl))
  f283 := Tryz.func180.trans (congrArg some (by kernel_rfl))
  f284 := Tryz.func181.trans (congrArg some (by kernel_rfl))
  f285 := Tryz.func182.trans (congrArg some (by kernel_rfl))
  f286 := Tryz.func183.trans (congrArg some (by kernel_rfl))
  f287 := Tryz.func198.trans (congrArg some (by kernel_rfl))
  f316 := Tryz.func216.trans (congrArg some (by kernel_rfl))
  f317 := Tryz.func203.trans (congrArg some (by kernel_rfl))
  f318 := Tryz.func205.trans (congrArg some (by kernel_rfl))
  f319 := Tryz.func206.trans (congrArg some (by kernel_rfl))
  f320 := Tryz.func207.trans (congrArg some (by kernel_rfl))
  f321 := Tryz.func214.trans (congrArg some (by kernel_rfl))
  f322 := Tryz.func215.trans (congrArg some (by kernel_rfl))
  f337 := Tryz.func219.trans (congrArg some (by kernel_rfl))
  f338 := Tryz.func220.trans (congrArg some (by kernel_rfl))
  t0 := Tryz.underlying0
  a0 := Tryz.isAgg0
  z0 := Tryz.sizeOf0
  v0 := Tryz.zeroValue0
  t2 := Tryz.underlying2
  a2 := Tryz.isAgg2
  z2 := Tryz.sizeOf2
  v2 := Tryz.zeroValue2
  t3 := Tryz.underlying3
  a3 := Tryz.isAgg3
  z3 := Tryz.sizeOf3
  v3 := Tryz.zeroValue3
  t4 := Tryz.underlying4
  a4 := Tryz.isAgg4
  z4 := Tryz.sizeOf4
  v4 := Tryz.zeroValue4
  t5 := Tryz.underlying5
  a5 := Tryz.isAgg5
  z5 := Tryz.sizeOf5
  v5 := Tryz.zeroValue5
  t9 := Tryz.underlying9
  a9 := Tryz.isAgg9
  z9 := Tryz.sizeOf9
  v9 := Tryz.zeroValue9
  t20 := Tryz.underlying20
  a20 := Tryz.isAgg20
  z20 := Tryz.sizeOf20
  v20 := Tryz.zeroValue20
  t21 := Tryz.underlying21
  a21 := Tryz.isAgg21
  z21 := Tryz.sizeOf21
  v21 := Tryz.zeroValue21
  t37 := Tryz.underlying158
  a37 := Tryz.isAgg158
  z37 := Tryz.sizeOf158
  v37 := Tryz.zeroValue158
  t46 := Tryz.underlying181
  a46 := Tryz.isAgg181
  z46 := Tryz.sizeOf181
  v46 := Tryz.zeroValue181
  t51 := Tryz.underlying229
  a51 := Tryz.isAgg229
  z51 := Tryz.sizeOf229
  v51 := Tryz.zeroValue229
  t53 := Tryz.underlying211
  a53 := Tryz.isAgg211
  z53 := Tryz.sizeOf211
  v53 := Tryz.zeroValue211
  t75 := Tryz.underlying189
  a75 := Tryz.isAgg189
  z75 := Tryz.sizeOf189
  v75 := Tryz.zeroValue189
  t85 := Tryz.underlying190
  a85 := Tryz.isAgg190
  z85 := Tryz.sizeOf190
  v85 := Tryz.zeroValue190
  t127 := Tryz.underlying216
  a127 := Tryz.isAgg216
  z127 := Tryz.sizeOf216
  v127 := Tryz.zeroValue216
  t143 := Tryz.underlying249
  a143 := Tryz.isAgg249
  z143 := Tryz.sizeOf249
  v143 := Tryz.zeroValue249
  t145 := Tryz.underlying251
  a145 := Tryz.isAgg251
  z145 := Tryz.sizeOf251
  v145 := Tryz.zeroValue251
  t167 := Tryz.underlying221
  a167 := Tryz.isAgg221
  z167 := Tryz.sizeOf221
  v167 := Tryz.zeroValue221
  t168 := Tryz.underlying224
  a168 := Tryz.isAgg224
  z168 := Tryz.sizeOf224
  v168 := Tryz.zeroValue224
  t171 := Tryz.underlying210
  a171 := Tryz.isAgg210
  z171 := Tryz.sizeOf210
  v171 := Tryz.zeroValue210
  t173 := Tryz.underlying214
  a173 := Tryz.isAgg214
  z173 := Tryz.sizeOf214
  v173 := Tryz.zeroValue214
  t175 := Tryz.underlying222
  a175 := Tryz.isAgg222
  z175 := Tryz.sizeOf222
  v175 := Tryz.zeroValue222
  t210 := Tryz.underlying239
  a210 := Tryz.isAgg239
  z210 := Tryz.sizeOf239
  v210 := Tryz.zeroValue239
  t212 := Tryz.underlying228
  a212 := Tryz.isAgg228
  z212 := Tryz.sizeOf228
  v212 := Tryz.zeroValue228
  t213 := Tryz.underlying230
  a213 := Tryz.isAgg230
  z213 := Tryz.sizeOf230
  t232 := Tryz.underlying252
  a232 := Tryz.isAgg252
  z232 := Tryz.sizeOf252
  v232 := Tryz.zeroValue252
  t233 := Tryz.underlying253
  a233 := Tryz.isAgg253
  z233 := Tryz.sizeOf253
  v233 := Tryz.zeroValue253
  g15 := by kernel_rfl
  g16 := by kernel_rfl
  g17 := by kernel_rfl
  g18 := by kernel_rfl
  g19 := by kernel_rfl
  t80 := Tryz.underlying170
  a80 := Tryz.isAgg170
  z80 := Tryz.sizeOf170
  v80 := Tryz.zeroValue170
  i0 := by kernel_rfl
  i2 := by kernel_rfl
  i3 := by kernel_rfl
  i4 := by kernel_rfl
  i5 := by kernel_rfl
  i9 := by kernel_rfl
  i20 := by kernel_rfl
  i21 := by kernel_rfl
  i37 := by kernel_rfl
  i46 := by kernel_rfl
  i51 := by kernel_rfl
  i53 := by kernel_rfl
  i75 := by kernel_rfl
  i80 := by kernel_rfl
  i85 := by kernel_rfl
  i127 := by kernel_rfl
  i143 := by kernel_rfl
  i145 := by kernel_rfl
  i167 := by kernel_rfl
  i168 := by kernel_rfl
  i171 := by kernel_rfl
  i173 := by kernel_rfl
  i175 := by kernel_rfl
  i210 := by kernel_rfl
  i212 := by kernel_rfl
  i232 := by kernel_rfl
  i233 := by kernel_rfl
  m15 := by kernel_rfl
  m16 := by kernel_rfl
  m17 := by kernel_rfl
  m18 := by kernel_rfl
  m19 := by kernel_rfl
  c0 := by kernel_rfl
  c2 := by kernel_rfl
  c3 := by kernel_rfl
  c4 := by kernel_rfl
  c5 := by kernel_rfl
  c9 := by kernel_rfl
  c20 := by kernel_rfl
  c21 := by kernel_rfl
  c37 := by kernel_rfl
  c46 := by kernel_rfl
  c51 := by kernel_rfl
  c53 := by kernel_rfl
  c75 := by kernel_rfl
  c80 := by kernel_rfl
  c85 := by kernel_rfl
  c127 := by kernel_rfl
  c143 := by kernel_rfl
  c145 := by kernel_rfl
  c167 := by kernel_rfl
  c168 := by kernel_rfl
  c171 := by kernel_rfl
  c173 := by kernel_rfl
  c175 := by kernel_rfl
  c210 := by kernel_rfl
  c212 := by kernel_rfl
  c213 := by kernel_rfl
  c232 := by kernel_rfl
  c233 := by kernel_rfl }
open Go.RowKit in
theorem Tryz.strconv_ParseInt_10_at64_ok (s : ByteArray) (hmax : s.size ≤ 9223372036854775806) (v : Int) (h : Lib.parseIntB 64 s.data.toList = .ok v) (w : World) :
    Calls Tryz.prog 157 #[.string s, .int .i64 10, .int .i64 64] w fun e w' => e = .returned (.tuple #[.int .i64 v, .nilIface]) ∧ (w' = w ∨ ∃ t, w' = Lib.bytesWorld w 5 t) := Any.strconv_ParseInt_10_at64_ok Tryz.laysC174 s hmax v h w
open Go.RowKit in
theorem Tryz.strconv_ParseInt_10_at64_range (s : ByteArray) (hlim : s.size ≤ 281474976710656) (h : Lib.parseIntB 64 s.data.toList = .range) (ev : Value) (w : World) (hv : w.cell? ⟨3, 0, none⟩ = some ev) (hev : ev = .nilIface ∨ ∃ te pe, ev = .iface te pe) :
    Calls Tryz.prog 157 #[.string s, .int .i64 10, .int .i64 64] w fun e w' => ∃ N, e = .returned (.tuple #[.int .i64 (Lib.intSat 64 s.data.toList), .iface 224 (.pointer (some ⟨N, 0, none⟩))]) ∧ w.heap.size ≤ N ∧ w'.heap[N]? = some (.cells #[.string ⟨#[80, 97, 114, 115, 101, 73, 110, 116]⟩, .string s, ev] 239 (0, 0)) ∧ Below w.heap.size w w' := Any.strconv_ParseInt_10_at64_range Tryz.laysC174 s hlim h ev w hv hev
def Tryz.lays99_ren : Go.Shelf.Ren := ⟨fun | 99 => 139 | 206 => 158 | n => n, fun | 9 => 9 | 4 => 4 | 3 => 3 | n => n, fun | n => n⟩
theorem Tryz.lays99 : Go.Proofs.Lays.n99 Tryz.prog Tryz.lays99_ren := {
  mixed := by kernel_rfl
  f99 := Tryz.func139.trans (congrArg some (by kernel_rfl))
  f206 := Tryz.func158.trans (congrArg some (by kernel_rfl))
  t3 := Tryz.underlying3
  a3 := Tryz.isAgg3
  z3 := Tryz.sizeOf3
  v3 := Tryz.zeroValue3
  t4 := Tryz.underlying4
  a4 := Tryz.isAgg4
  z4 := Tryz.sizeOf4
  v4 := Tryz.zeroValue4
  t9 := Tryz.underlying9
  a9 := Tryz.isAgg9
  z9 := Tryz.sizeOf9
  v9 := Tryz.zeroValue9 }
open Go.RowKit Go.Lib in
theorem Tryz.strings_HasPrefix (s p : ByteArray) (w : World) :
    Calls Tryz.prog 139 #[.string s, .string p] w fun e w' => e = .returned (.bool (Lib.hasPrefix s.data.toList p.data.toList)) ∧ w' = w := Any.strings_HasPrefix Tryz.lays99 s p w
def Tryz.lays101_ren : Go.Shelf.Ren := ⟨fun | 101 => 155 | 208 => 169 | 206 => 158 | n => n, fun | 9 => 9 | 4 => 4 | 3 => 3 | n => n, fun | n => n⟩
theorem Tryz.lays101 : Go.Proofs.Lays.n101 Tryz.prog Tryz.lays101_ren := {
  mixed := by kernel_rfl
  f101 := Tryz.func155.trans (congrArg some (by kernel_rfl))
  f206 := Tryz.func158.trans (congrArg some (by kernel_rfl))
  f208 := Tryz.func169.trans (congrArg some (by kernel_rfl))
  t3 := Tryz.underlying3
  a3 := Tryz.isAgg3
  z3 := Tryz.sizeOf3
  v3 := Tryz.zeroValue3
  t4 := Tryz.underlying4
  a4 := Tryz.isAgg4
  z4 := Tryz.sizeOf4
  v4 := Tryz.zeroValue4
  t9 := Tryz.underlying9
  a9 := Tryz.isAgg9
  z9 := Tryz.sizeOf9
  v9 := Tryz.zeroValue9 }
open Go.RowKit Go.Lib in
theorem Tryz.strings_TrimPrefix (s p : ByteArray) (w : World) :
    Calls Tryz.prog 155 #[.string s, .string p] w fun e w' => e = .returned (.string ⟨(Lib.trimPrefix s.data.toList p.data.toList).toArray⟩) ∧ w' = w := Any.strings_TrimPrefix Tryz.lays101 s p w
end Go.Proofs
