import Derived.Shelf.Lays
import Derived.Shelf.LaysM
import Derived.Shelf.SlGeneric
import Derived.Shelf.SlMaps.Clone
import Derived.Shelf.Strings.Shaped
import Derived.Shelf.Strings.Search2
import Derived.Shelf.Strings.SlTrimAscii
import Derived.Test.YtmbccebjkenofaaGreatDoorProg
set_option linter.unusedVariables false
set_option linter.unusedSimpArgs false
set_option linter.unusedSectionVars false

/-
  DERIVED: THE SHELF's CONTRACTS AT THIS DUMP, IN PLAIN WORDS (tools/lay-plain.mjs out of 'TrytShelf.lean', which tools/lay-shelf.mjs wrote): THE SAME DECLARATIONS UNDER THE SAME NAMES: 'import', 'namespace', 'open', 'def', 'theorem' AND NOTHING ELSE: no command of the shelf's: FOR A HAND-IN. Each laying: the table of numbers ('.._ren') and one theorem, a field a fact of the dump's own or the kernel's comparison; each contract: ONE APPLICATION.
-/
namespace Go.Proofs
open Go.Shelf
def Tryz.lays160_ren : Go.Shelf.Ren := ⟨fun | 160 => 77 | 232 => 118 | 231 => 117 | 227 => 119 | 234 => 121 | 233 => 120 | 236 => 123 | 235 => 122 | 228 => 156 | 271 => 159 | 151 => 158 | 197 => 157 | 120 => 207 | 152 => 206 | 260 => 205 | 137 => 169 | 119 => 241 | 224 => 81 | 225 => 80 | 217 => 79 | 266 => 124 | n => n, fun | 9 => 9 | 4 => 4 | 3 => 3 | 5 => 5 | 117 => 222 | 116 => 221 | 0 => 0 | 124 => 225 | 21 => 21 | 105 => 282 | 46 => 172 | 119 => 356 | 139 => 359 | 138 => 358 | n => n, fun | 3 => 2 | 4 => 3 | n => n⟩
theorem Tryz.lays160 : Go.Proofs.Lays.n160 Tryz.prog Tryz.lays160_ren := {
  mixed := by kernel_rfl
  f119 := Tryz.func241.trans (congrArg some (by kernel_rfl))
  f120 := Tryz.func207.trans (congrArg some (by kernel_rfl))
  f137 := Tryz.func169.trans (congrArg some (by kernel_rfl))
  f151 := Tryz.func158.trans (congrArg some (by kernel_rfl))
  f152 := Tryz.func206.trans (congrArg some (by kernel_rfl))
  f160 := Tryz.func77.trans (congrArg some (by kernel_rfl))
  f197 := Tryz.func157.trans (congrArg some (by kernel_rfl))
  f217 := Tryz.func79.trans (congrArg some (by kernel_rfl))
  f224 := Tryz.func81.trans (congrArg some (by kernel_rfl))
  f225 := Tryz.func80.trans (congrArg some (by kernel_rfl))
  f227 := Tryz.func119.trans (congrArg some (by kernel_rfl))
  f228 := Tryz.func156.trans (congrArg some (by kernel_rfl))
  f231 := Tryz.func117.trans (congrArg some (by kernel_rfl))
  f232 := Tryz.func118.trans (congrArg some (by kernel_rfl))
  f233 := Tryz.func120.trans (congrArg some (by kernel_rfl))
  f234 := Tryz.func121.trans (congrArg some (by kernel_rfl))
  f235 := Tryz.func122.trans (congrArg some (by kernel_rfl))
  f236 := Tryz.func123.trans (congrArg some (by kernel_rfl))
  f260 := Tryz.func205.trans (congrArg some (by kernel_rfl))
  f266 := Tryz.func124.trans (congrArg some (by kernel_rfl))
  f271 := Tryz.func159.trans (congrArg some (by kernel_rfl))
  t0 := Tryz.underlying0
  a0 := Tryz.isAgg0
  z0 := Tryz.sizeOf0
  v0 := Tryz.zeroValue0
  t3 := Tryz.underlying3
  a3 := Tryz.isAgg3
  z3 := Tryz.sizeOf3
  v3 := Tryz.zeroValue3
  t4 := Tryz.underlying4
  a4 := Tryz.isAgg4
  z4 := Tryz.sizeOf4
  v4 := Tryz.zeroValue4
  t5 := Tryz.underlying5
  a5 := Tryz.isAgg5
  z5 := Tryz.sizeOf5
  v5 := Tryz.zeroValue5
  t9 := Tryz.underlying9
  a9 := Tryz.isAgg9
  z9 := Tryz.sizeOf9
  v9 := Tryz.zeroValue9
  t21 := Tryz.underlying21
  a21 := Tryz.isAgg21
  z21 := Tryz.sizeOf21
  v21 := Tryz.zeroValue21
  t46 := Tryz.underlying172
  a46 := Tryz.isAgg172
  z46 := Tryz.sizeOf172
  v46 := Tryz.zeroValue172
  t105 := Tryz.underlying282
  a105 := Tryz.isAgg282
  z105 := Tryz.sizeOf282
  v105 := Tryz.zeroValue282
  t116 := Tryz.underlying221
  a116 := Tryz.isAgg221
  z116 := Tryz.sizeOf221
  t117 := Tryz.underlying222
  a117 := Tryz.isAgg222
  z117 := Tryz.sizeOf222
  v117 := Tryz.zeroValue222
  t119 := Tryz.underlying356
  a119 := Tryz.isAgg356
  z119 := Tryz.sizeOf356
  t124 := Tryz.underlying225
  a124 := Tryz.isAgg225
  z124 := Tryz.sizeOf225
  v124 := Tryz.zeroValue225
  t138 := Tryz.underlying358
  a138 := Tryz.isAgg358
  z138 := Tryz.sizeOf358
  v138 := Tryz.zeroValue358
  t139 := Tryz.underlying359
  a139 := Tryz.isAgg359
  z139 := Tryz.sizeOf359
  v139 := Tryz.zeroValue359
  g3 := by kernel_rfl
  g4 := by kernel_rfl }
def Tryz.lays217_ren : Go.Shelf.Ren := ⟨fun | 217 => 79 | 266 => 124 | n => n, fun | 9 => 9 | 5 => 5 | 3 => 3 | n => n, fun | n => n⟩
theorem Tryz.lays217 : Go.Proofs.Lays.n217 Tryz.prog Tryz.lays217_ren := {
  mixed := by kernel_rfl
  f217 := Tryz.func79.trans (congrArg some (by kernel_rfl))
  f266 := Tryz.func124.trans (congrArg some (by kernel_rfl))
  t3 := Tryz.underlying3
  a3 := Tryz.isAgg3
  z3 := Tryz.sizeOf3
  v3 := Tryz.zeroValue3
  t5 := Tryz.underlying5
  a5 := Tryz.isAgg5
  z5 := Tryz.sizeOf5
  v5 := Tryz.zeroValue5
  t9 := Tryz.underlying9
  a9 := Tryz.isAgg9
  z9 := Tryz.sizeOf9
  v9 := Tryz.zeroValue9 }
open Go.RowKit Go.Lib in
theorem Tryz.stringslite_IndexByte (s : ByteArray) (c : Int) (w : World) :
    Calls Tryz.prog 79 #[.string s, .int .u8 c] w fun e w' => e = .returned (.int .i64 (Lib.indexByte s.data.toList c.toNat.toUInt8)) ∧ w' = w := Any.stringslite_IndexByte Tryz.lays217 s c w
def Tryz.lays219_ren : Go.Shelf.Ren := ⟨fun | 219 => 48 | 217 => 79 | 225 => 80 | 224 => 81 | 267 => 82 | 266 => 124 | 314 => 125 | n => n, fun | 9 => 9 | 3 => 3 | 4 => 4 | 5 => 5 | 46 => 172 | 146 => 227 | 51 => 226 | n => n, fun | 1 => 0 | n => n⟩
theorem Tryz.lays219 : Go.Proofs.Lays.n219 Tryz.prog Tryz.lays219_ren := {
  mixed := by kernel_rfl
  f217 := Tryz.func79.trans (congrArg some (by kernel_rfl))
  f219 := Tryz.func48.trans (congrArg some (by kernel_rfl))
  f224 := Tryz.func81.trans (congrArg some (by kernel_rfl))
  f225 := Tryz.func80.trans (congrArg some (by kernel_rfl))
  f266 := Tryz.func124.trans (congrArg some (by kernel_rfl))
  f267 := Tryz.func82.trans (congrArg some (by kernel_rfl))
  f314 := Tryz.func125.trans (congrArg some (by kernel_rfl))
  t3 := Tryz.underlying3
  a3 := Tryz.isAgg3
  z3 := Tryz.sizeOf3
  v3 := Tryz.zeroValue3
  t4 := Tryz.underlying4
  a4 := Tryz.isAgg4
  z4 := Tryz.sizeOf4
  v4 := Tryz.zeroValue4
  t5 := Tryz.underlying5
  a5 := Tryz.isAgg5
  z5 := Tryz.sizeOf5
  v5 := Tryz.zeroValue5
  t9 := Tryz.underlying9
  a9 := Tryz.isAgg9
  z9 := Tryz.sizeOf9
  v9 := Tryz.zeroValue9
  t46 := Tryz.underlying172
  a46 := Tryz.isAgg172
  z46 := Tryz.sizeOf172
  v46 := Tryz.zeroValue172
  t51 := Tryz.underlying226
  a51 := Tryz.isAgg226
  z51 := Tryz.sizeOf226
  v51 := Tryz.zeroValue226
  t146 := Tryz.underlying227
  a146 := Tryz.isAgg227
  z146 := Tryz.sizeOf227
  v146 := Tryz.zeroValue227
  g1 := by kernel_rfl }
def Tryz.laysM219_ren : Go.Shelf.Ren := ⟨fun | 219 => 48 | 217 => 79 | 225 => 80 | 224 => 81 | 267 => 82 | 266 => 124 | 314 => 125 | n => n, fun | 9 => 9 | 3 => 3 | 4 => 4 | 5 => 5 | 46 => 172 | 146 => 227 | 51 => 226 | n => n, fun | 1 => 0 | n => n⟩
theorem Tryz.laysM219 : Go.Proofs.LaysM.n219 Tryz.prog Tryz.laysM219_ren := {
  mixed := by kernel_rfl
  f217 := Tryz.func79.trans (congrArg some (by kernel_rfl))
  f219 := Tryz.func48.trans (congrArg some (by kernel_rfl))
  f224 := Tryz.func81.trans (congrArg some (by kernel_rfl))
  f225 := Tryz.func80.trans (congrArg some (by kernel_rfl))
  f266 := Tryz.func124.trans (congrArg some (by kernel_rfl))
  f267 := Tryz.func82.trans (congrArg some (by kernel_rfl))
  f314 := Tryz.func125.trans (congrArg some (by kernel_rfl))
  t3 := Tryz.underlying3
  a3 := Tryz.isAgg3
  z3 := Tryz.sizeOf3
  v3 := Tryz.zeroValue3
  t4 := Tryz.underlying4
  a4 := Tryz.isAgg4
  z4 := Tryz.sizeOf4
  v4 := Tryz.zeroValue4
  t5 := Tryz.underlying5
  a5 := Tryz.isAgg5
  z5 := Tryz.sizeOf5
  v5 := Tryz.zeroValue5
  t9 := Tryz.underlying9
  a9 := Tryz.isAgg9
  z9 := Tryz.sizeOf9
  v9 := Tryz.zeroValue9
  t46 := Tryz.underlying172
  a46 := Tryz.isAgg172
  z46 := Tryz.sizeOf172
  v46 := Tryz.zeroValue172
  t51 := Tryz.underlying226
  a51 := Tryz.isAgg226
  z51 := Tryz.sizeOf226
  v51 := Tryz.zeroValue226
  t146 := Tryz.underlying227
  a146 := Tryz.isAgg227
  z146 := Tryz.sizeOf227
  v146 := Tryz.zeroValue227
  g1 := by kernel_rfl
  i3 := by kernel_rfl
  i4 := by kernel_rfl
  i5 := by kernel_rfl
  i9 := by kernel_rfl
  i46 := by kernel_rfl
  i51 := by kernel_rfl
  i146 := by kernel_rfl
  m1 := by kernel_rfl
  s1_3 := fun w h => Go.Proofs.cell_of_shapedOpen_int (zero := #[.int .i64 0]) (t := 3) h (of_decide_eq_true (by kernel_rfl)) (by kernel_rfl) rfl (by kernel_rfl) (by kernel_rfl) Tryz.underlying3 }
open Go.RowKit Go.Lib in
theorem Tryz.stringslite_Index_shaped (s sub : ByteArray) (w : World) (h : w.ShapedOpen Tryz.prog) (hs : s.size < 4294967281) :
    Calls Tryz.prog 48 #[.string s, .string sub] w fun e w' => e = .returned (.int .i64 (Lib.index s.data.toList sub.data.toList)) ∧ w' = w := Any.stringslite_Index_shaped Tryz.laysM219 s sub w h hs
def Tryz.laysW52_ren : Go.Shelf.Ren := ⟨fun | 5 => 52 | 7 => 88 | n => n, fun | 23 => 108 | 25 => 128 | 3 => 96 | 4 => 4 | 20 => 20 | n => n, fun | n => n⟩
theorem Tryz.laysW52 : Go.Proofs.SlLaysW.n5 Tryz.prog Tryz.laysW52_ren := {
  mixed := by kernel_rfl
  f5 := ⟨Tryz.f52.name, by decide, Tryz.func52.trans (congrArg some (by kernel_rfl))⟩
  f7 := Tryz.func88.trans (congrArg some (by kernel_rfl))
  t4 := Tryz.underlying4
  a4 := Tryz.isAgg4
  z4 := Tryz.sizeOf4
  v4 := Tryz.zeroValue4
  t20 := Tryz.underlying20
  a20 := Tryz.isAgg20
  z20 := Tryz.sizeOf20
  v20 := Tryz.zeroValue20
  t23 := Tryz.underlying108
  a23 := Tryz.isAgg108
  z23 := Tryz.sizeOf108
  v23 := Tryz.zeroValue108 }
def Tryz.laysW53_ren : Go.Shelf.Ren := ⟨fun | 5 => 53 | 7 => 88 | n => n, fun | 23 => 109 | 25 => 28 | 3 => 3 | 4 => 4 | 20 => 20 | n => n, fun | n => n⟩
theorem Tryz.laysW53 : Go.Proofs.SlLaysW.n5 Tryz.prog Tryz.laysW53_ren := {
  mixed := by kernel_rfl
  f5 := ⟨Tryz.f53.name, by decide, Tryz.func53.trans (congrArg some (by kernel_rfl))⟩
  f7 := Tryz.func88.trans (congrArg some (by kernel_rfl))
  t4 := Tryz.underlying4
  a4 := Tryz.isAgg4
  z4 := Tryz.sizeOf4
  v4 := Tryz.zeroValue4
  t20 := Tryz.underlying20
  a20 := Tryz.isAgg20
  z20 := Tryz.sizeOf20
  v20 := Tryz.zeroValue20
  t23 := Tryz.underlying109
  a23 := Tryz.isAgg109
  z23 := Tryz.sizeOf109
  v23 := Tryz.zeroValue109 }
end Go.Proofs
