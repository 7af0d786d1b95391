import Derived.Test.YtnkafagfkblfeaaDoorProg
import Derived.KernelRfl
import Derived.Test.YtnkafagfkblfeaaDoorSz2
import Derived.Test.YtnkafagfkblfeaaDoorSz3
set_option linter.unusedVariables false
set_option linter.unusedSimpArgs false
set_option linter.unusedSectionVars false

namespace Go.Proofs.YtnkafagfkblfeaaDoor
open Go Sz
set_option maxRecDepth 100000

/-- sizar/sizarref1.GoodNames. -/
def c31_m0 : List Bool := (mk 85 [0, 3, 4])
abbrev c31_f0 (v0 v3 v4 : AV) : List AV := FM 85 [(0, v0), (3, v3), (4, v4)]
def c31_b0 : ACode := (.seq (.seq (.reg [⟨(some 36), .op (.mov (.tmp 4)), none⟩,
   ⟨(some 37), .op (.mov (.tmp 0)), none⟩,
   ⟨(some 38), .op (.mov (.tmp 3)), none⟩,
   ⟨(some 39), .op (.iad 1 (.tmp 37) (.tmp 38)), none⟩,
   ⟨(some 40), .op (.ld none (.tmp 39)), none⟩,
   ⟨(some 41), .op (.lens (.tmp 40)), none⟩,
   ⟨(some 42), .op (.bin .lss (.tmp 36) (.tmp 41)), none⟩])
 (.cond (.tmp 42) .skip
 (.exit 2 (mk 85 [0, 3]))))
 (.seq (.block 3 (.seq (.reg [⟨(some 45), .op (.mov (.tmp 0)), none⟩,
    ⟨(some 46), .op (.mov (.tmp 3)), none⟩,
    ⟨(some 47), .op (.iad 1 (.tmp 45) (.tmp 46)), none⟩,
    ⟨(some 48), .op (.ld none (.tmp 47)), none⟩,
    ⟨(some 49), .op (.mov (.tmp 4)), none⟩,
    ⟨(some 50), .op (.ixs (.tmp 48) (.tmp 49)), none⟩,
    ⟨(some 5), .op (.mov (.tmp 50)), none⟩])
  (.seq (.reg [⟨(some 51), .op (.mov (.tmp 5)), none⟩,
    ⟨(some 52), .call 58 [(.tmp 51)], none⟩,
    ⟨(some 53), .op (.un .not (.tmp 52)), none⟩,
    ⟨(some 54), .op (.mov (.tmp 53)), none⟩,
    ⟨(some 55), .op (.mov (.tmp 5)), (some (54, true))⟩,
    ⟨(some 56), .call 59 [(.tmp 55)], (some (54, true))⟩,
    ⟨(some 57), .op (.un .not (.tmp 56)), (some (54, true))⟩,
    ⟨(some 58), .op (.pick (.tmp 54) (.tmp 57) (.const (.bool false))), none⟩,
    ⟨(some 59), .op (.mov (.tmp 58)), none⟩,
    ⟨(some 60), .op (.mov (.tmp 5)), (some (59, true))⟩,
    ⟨(some 61), .op (.bin .neq (.tmp 60) (.const (.int .u8 95))), (some (59, true))⟩,
    ⟨(some 62), .op (.pick (.tmp 59) (.tmp 61) (.const (.bool false))), none⟩])
  (.cond (.tmp 62) (.seq (.reg [⟨(some 2), .op (.mov (.const (.bool false))), none⟩])
   (.ret (mk 85 [2])))
  .skip))))
 (.reg [⟨(some 43), .op (.mov (.tmp 4)), none⟩,
   ⟨(some 44), .op (.bin .add (.tmp 43) (.const (.int .i64 1))), none⟩,
   ⟨(some 4), .op (.mov (.tmp 44)), none⟩])))
def c31_m1 : List Bool := (mk 85 [0, 3, 6])
abbrev c31_f1 (v0 v3 v6 : AV) : List AV := FM 85 [(0, v0), (3, v3), (6, v6)]
def c31_b1 : ACode := (.seq (.seq (.reg [⟨(some 63), .op (.mov (.tmp 6)), none⟩,
   ⟨(some 64), .op (.mov (.tmp 3)), none⟩,
   ⟨(some 65), .op (.bin .lss (.tmp 63) (.tmp 64)), none⟩])
 (.cond (.tmp 65) .skip
 (.exit 4 (mk 85 [0, 3]))))
 (.seq (.block 5 (.seq (.reg [⟨(some 68), .op (.mov (.tmp 0)), none⟩,
    ⟨(some 69), .op (.mov (.tmp 6)), none⟩,
    ⟨(some 70), .op (.iad 1 (.tmp 68) (.tmp 69)), none⟩,
    ⟨(some 71), .op (.ld none (.tmp 70)), none⟩,
    ⟨(some 72), .op (.mov (.tmp 0)), none⟩,
    ⟨(some 73), .op (.mov (.tmp 3)), none⟩,
    ⟨(some 74), .op (.iad 1 (.tmp 72) (.tmp 73)), none⟩,
    ⟨(some 75), .op (.ld none (.tmp 74)), none⟩,
    ⟨(some 76), .op (.bin .eql (.tmp 71) (.tmp 75)), none⟩])
  (.cond (.tmp 76) (.seq (.reg [⟨(some 2), .op (.mov (.const (.bool false))), none⟩])
   (.ret (mk 85 [2])))
  .skip)))
 (.reg [⟨(some 66), .op (.mov (.tmp 6)), none⟩,
   ⟨(some 67), .op (.bin .add (.tmp 66) (.const (.int .i64 1))), none⟩,
   ⟨(some 6), .op (.mov (.tmp 67)), none⟩])))
def c31_m2 : List Bool := (mk 85 [0, 3])
abbrev c31_f2 (v0 v3 : AV) : List AV := FM 85 [(0, v0), (3, v3)]
def c31_b2 : ACode := (.seq (.seq (.reg [⟨(some 7), .op (.mov (.tmp 3)), none⟩,
   ⟨(some 8), .op (.mov (.tmp 0)), none⟩,
   ⟨(some 9), .op (.lenv (.tmp 8)), none⟩,
   ⟨(some 10), .op (.bin .lss (.tmp 7) (.tmp 9)), none⟩])
 (.cond (.tmp 10) .skip
 (.exit 0 (mk 85 [0]))))
 (.seq (.block 1 (.seq (.seq (.reg [⟨(some 13), .op (.mov (.tmp 0)), none⟩,
    ⟨(some 14), .op (.mov (.tmp 3)), none⟩,
    ⟨(some 15), .op (.iad 1 (.tmp 13) (.tmp 14)), none⟩,
    ⟨(some 16), .op (.ld none (.tmp 15)), none⟩,
    ⟨(some 17), .op (.lens (.tmp 16)), none⟩,
    ⟨(some 18), .op (.bin .lss (.tmp 17) (.const (.int .i64 1))), none⟩,
    ⟨(some 19), .op (.mov (.tmp 18)), none⟩,
    ⟨(some 20), .op (.mov (.tmp 0)), (some (19, false))⟩,
    ⟨(some 21), .op (.mov (.tmp 3)), (some (19, false))⟩,
    ⟨(some 22), .op (.iad 1 (.tmp 20) (.tmp 21)), (some (19, false))⟩,
    ⟨(some 23), .op (.ld none (.tmp 22)), (some (19, false))⟩,
    ⟨(some 24), .op (.lens (.tmp 23)), (some (19, false))⟩,
    ⟨(some 25), .op (.bin .gtr (.tmp 24) (.const (.int .i64 16))), (some (19, false))⟩,
    ⟨(some 26), .op (.pick (.tmp 19) (.const (.bool true)) (.tmp 25)), none⟩,
    ⟨(some 27), .op (.mov (.tmp 26)), none⟩,
    ⟨(some 28), .op (.mov (.tmp 0)), (some (27, false))⟩,
    ⟨(some 29), .op (.mov (.tmp 3)), (some (27, false))⟩,
    ⟨(some 30), .op (.iad 1 (.tmp 28) (.tmp 29)), (some (27, false))⟩,
    ⟨(some 31), .op (.ld none (.tmp 30)), (some (27, false))⟩,
    ⟨(some 32), .op (.ixs (.tmp 31) (.const (.int .i64 0))), (some (27, false))⟩,
    ⟨(some 33), .call 58 [(.tmp 32)], (some (27, false))⟩,
    ⟨(some 34), .op (.un .not (.tmp 33)), (some (27, false))⟩,
    ⟨(some 35), .op (.pick (.tmp 27) (.const (.bool true)) (.tmp 34)), none⟩])
  (.cond (.tmp 35) (.seq (.reg [⟨(some 2), .op (.mov (.const (.bool false))), none⟩])
   (.ret (mk 85 [2])))
  .skip))
  (.seq (.seq (.reg [⟨(some 4), .op (.mov (.const (.int .i64 1))), none⟩])
  (.block 2 (.loop c31_m0 c31_b0)))
  (.seq (.reg [⟨(some 6), .op (.mov (.const (.int .i64 0))), none⟩])
  (.block 4 (.loop c31_m1 c31_b1))))))
 (.reg [⟨(some 11), .op (.mov (.tmp 3)), none⟩,
   ⟨(some 12), .op (.bin .add (.tmp 11) (.const (.int .i64 1))), none⟩,
   ⟨(some 3), .op (.mov (.tmp 12)), none⟩])))
def c31 : AFun := ⟨85, [.tmp 2], false, (.seq (.reg [⟨(some 2), .op (.mov (.const (.bool false))), none⟩])
 (.seq (.seq (.reg [⟨(some 3), .op (.mov (.const (.int .i64 0))), none⟩])
 (.block 0 (.loop c31_m2 c31_b2)))
 (.seq (.reg [⟨(some 77), .op (.mov (.tmp 0)), none⟩,
   ⟨(some 78), .op (.lenv (.tmp 77)), none⟩,
   ⟨(some 79), .op (.bin .geq (.tmp 78) (.const (.int .i64 1))), none⟩,
   ⟨(some 80), .op (.mov (.tmp 79)), none⟩,
   ⟨(some 81), .op (.mov (.tmp 0)), (some (80, true))⟩,
   ⟨(some 82), .op (.lenv (.tmp 81)), (some (80, true))⟩,
   ⟨(some 83), .op (.bin .leq (.tmp 82) (.const (.int .i64 64))), (some (80, true))⟩,
   ⟨(some 84), .op (.pick (.tmp 80) (.tmp 83) (.const (.bool false))), none⟩,
   ⟨(some 2), .op (.mov (.tmp 84)), none⟩])
 (.ret (mk 85 [2])))))⟩
theorem ok31 : FnOK Tryd.prog 31 c31 := ⟨Tryd.f31, _, Tryd.func31, by kernel_rfl, rfl, by kernel_rfl, by kernel_rfl, by kernel_rfl⟩

/-- sizar/label.Good. -/
def c32_m0 : List Bool := (mk 31 [0, 13, 14, 15])
abbrev c32_f0 (v0 v13 v14 v15 : AV) : List AV := FM 31 [(0, v0), (13, v13), (14, v14), (15, v15)]
def c32_b0 : ACode := (.seq (.reg [⟨(some 16), .op (.bin .lss (.tmp 15) (.tmp 14)), none⟩])
 (.seq (.cond (.tmp 16) .skip
 (.exit 0 (mk 31 [])))
 (.seq (.block 1 (.seq (.reg [⟨(some 17), .op (.mov (.tmp 15)), none⟩,
    ⟨(some 18), .op (.iad 1 (.tmp 13) (.tmp 15)), none⟩,
    ⟨(some 19), .op (.ld none (.tmp 18)), none⟩,
    ⟨(some 3), .op (.mov (.tmp 17)), none⟩,
    ⟨(some 4), .op (.mov (.tmp 19)), none⟩])
  (.seq (.reg [⟨(some 20), .op (.mov (.tmp 4)), none⟩,
    ⟨(some 21), .call 60 [(.tmp 20)], none⟩,
    ⟨(some 22), .op (.un .not (.tmp 21)), none⟩,
    ⟨(some 23), .op (.mov (.tmp 22)), none⟩,
    ⟨(some 24), .op (.mov (.tmp 0)), (some (23, false))⟩,
    ⟨(some 25), .op (.mov (.tmp 3)), (some (23, false))⟩,
    ⟨(some 26), .op (.slv 1 (.tmp 24) none (some (.tmp 25)) none), (some (23, false))⟩,
    ⟨(some 27), .op (.mov (.tmp 4)), (some (23, false))⟩,
    ⟨(some 28), .call 61 [(.tmp 26), (.tmp 27)], (some (23, false))⟩,
    ⟨(some 29), .op (.pick (.tmp 23) (.const (.bool true)) (.tmp 28)), none⟩])
  (.cond (.tmp 29) (.seq (.reg [⟨(some 2), .op (.mov (.const (.bool false))), none⟩])
   (.ret (mk 31 [2])))
  .skip))))
 (.reg [⟨(some 30), .op (.bin .add (.tmp 15) (.const (.int .i64 1))), none⟩,
   ⟨(some 15), .op (.mov (.tmp 30)), none⟩]))))
def c32 : AFun := ⟨31, [.tmp 2], false, (.seq (.reg [⟨(some 2), .op (.mov (.const (.bool false))), none⟩])
 (.seq (.seq (.reg [⟨(some 5), .op (.mov (.tmp 0)), none⟩,
   ⟨(some 6), .op (.lenv (.tmp 5)), none⟩,
   ⟨(some 7), .op (.bin .lss (.tmp 6) (.const (.int .i64 1))), none⟩,
   ⟨(some 8), .op (.mov (.tmp 7)), none⟩,
   ⟨(some 9), .op (.mov (.tmp 0)), (some (8, false))⟩,
   ⟨(some 10), .op (.lenv (.tmp 9)), (some (8, false))⟩,
   ⟨(some 11), .op (.bin .gtr (.tmp 10) (.const (.int .i64 64))), (some (8, false))⟩,
   ⟨(some 12), .op (.pick (.tmp 8) (.const (.bool true)) (.tmp 11)), none⟩])
 (.cond (.tmp 12) (.seq (.reg [⟨(some 2), .op (.mov (.const (.bool false))), none⟩])
  (.ret (mk 31 [2])))
 .skip))
 (.seq (.seq (.reg [⟨(some 13), .op (.mov (.tmp 0)), none⟩,
   ⟨(some 14), .op (.lenv (.tmp 13)), none⟩,
   ⟨(some 15), .op (.mov (.const (.int .i64 0))), none⟩])
 (.block 0 (.loop c32_m0 c32_b0)))
 (.seq (.reg [⟨(some 2), .op (.mov (.const (.bool true))), none⟩])
 (.ret (mk 31 [2]))))))⟩
theorem ok32 : FnOK Tryd.prog 32 c32 := ⟨Tryd.f32, _, Tryd.func32, by kernel_rfl, rfl, by kernel_rfl, by kernel_rfl, by kernel_rfl⟩

/-- sizar/label.Fits. -/
def c33 : AFun := ⟨13, [.tmp 4], false, (.seq (.reg [⟨(some 4), .op (.mov (.const (.bool false))), none⟩])
 (.seq (.reg [⟨(some 5), .op (.mov (.tmp 0)), none⟩,
   ⟨(some 6), .call 32 [(.tmp 5)], none⟩,
   ⟨(some 7), .op (.mov (.tmp 6)), none⟩,
   ⟨(some 8), .op (.mov (.tmp 1)), (some (7, true))⟩,
   ⟨(some 9), .op (.mov (.tmp 0)), (some (7, true))⟩,
   ⟨(some 10), .call 38 [(.tmp 9)], (some (7, true))⟩,
   ⟨(some 11), .call 28 [(.tmp 8), (.tmp 10)], (some (7, true))⟩,
   ⟨(some 12), .op (.pick (.tmp 7) (.tmp 11) (.const (.bool false))), none⟩,
   ⟨(some 4), .op (.mov (.tmp 12)), none⟩])
 (.ret (mk 13 [4]))))⟩
theorem ok33 : FnOK Tryd.prog 33 c33 := ⟨Tryd.f33, _, Tryd.func33, by kernel_rfl, rfl, by kernel_rfl, by kernel_rfl, by kernel_rfl⟩

/-- sizar/sizarref1.Fits. -/
def c34_m0 : List Bool := (mk 17 [0, 1, 5])
abbrev c34_f0 (v0 v1 v5 : AV) : List AV := FM 17 [(0, v0), (1, v1), (5, v5)]
def c34_b0 : ACode := (.seq (.seq (.reg [⟨(some 8), .op (.mov (.tmp 5)), none⟩,
   ⟨(some 9), .op (.bin .lss (.tmp 8) (.const (.int .i64 64))), none⟩])
 (.cond (.tmp 9) .skip
 (.exit 0 (mk 17 [0]))))
 (.seq (.block 1 (.seq (.reg [⟨(some 12), .op (.mov (.tmp 1)), none⟩,
    ⟨(some 13), .op (.mov (.tmp 5)), none⟩,
    ⟨(some 14), .call 62 [(.tmp 12), (.tmp 13)], none⟩])
  (.cond (.tmp 14) (.seq (.reg [⟨(some 4), .op (.mov (.const (.bool false))), none⟩])
   (.ret (mk 17 [4])))
  .skip)))
 (.reg [⟨(some 10), .op (.mov (.tmp 5)), none⟩,
   ⟨(some 11), .op (.bin .add (.tmp 10) (.const (.int .i64 1))), none⟩,
   ⟨(some 5), .op (.mov (.tmp 11)), none⟩])))
def c34 : AFun := ⟨17, [.tmp 4], false, (.seq (.reg [⟨(some 4), .op (.mov (.const (.bool false))), none⟩])
 (.seq (.seq (.reg [⟨(some 6), .op (.mov (.tmp 0)), none⟩,
   ⟨(some 7), .op (.lenv (.tmp 6)), none⟩,
   ⟨(some 5), .op (.mov (.tmp 7)), none⟩])
 (.block 0 (.loop c34_m0 c34_b0)))
 (.seq (.reg [⟨(some 15), .op (.mov (.tmp 0)), none⟩,
   ⟨(some 16), .call 31 [(.tmp 15)], none⟩,
   ⟨(some 4), .op (.mov (.tmp 16)), none⟩])
 (.ret (mk 17 [4])))))⟩
theorem ok34 : FnOK Tryd.prog 34 c34 := ⟨Tryd.f34, _, Tryd.func34, by kernel_rfl, rfl, by kernel_rfl, by kernel_rfl, by kernel_rfl⟩

/-- sizar/label.Text. -/
def c35_m0 : List Bool := (mk 33 [1, 5, 12, 13, 14])
abbrev c35_f0 (v1 v5 v12 v13 v14 : AV) : List AV := FM 33 [(1, v1), (5, v5), (12, v12), (13, v13), (14, v14)]
def c35_b0 : ACode := (.seq (.reg [⟨(some 15), .op (.bin .lss (.tmp 14) (.tmp 13)), none⟩])
 (.seq (.cond (.tmp 15) .skip
 (.exit 0 (mk 33 [5])))
 (.seq (.block 1 (.seq (.reg [⟨(some 16), .op (.mov (.tmp 14)), none⟩,
    ⟨(some 17), .op (.iad 1 (.tmp 12) (.tmp 14)), none⟩,
    ⟨(some 18), .op (.ld none (.tmp 17)), none⟩,
    ⟨(some 6), .op (.mov (.tmp 16)), none⟩,
    ⟨(some 7), .op (.mov (.tmp 18)), none⟩])
  (.seq (.reg [⟨(some 19), .op (.mov (.tmp 1)), none⟩,
    ⟨(some 20), .op (.mov (.tmp 6)), none⟩,
    ⟨(some 21), .op (.bin .shr (.tmp 19) (.tmp 20)), none⟩,
    ⟨(some 22), .op (.bin .and (.tmp 21) (.const (.int .u64 1))), none⟩,
    ⟨(some 23), .op (.bin .eql (.tmp 22) (.const (.int .u64 1))), none⟩])
  (.cond (.tmp 23) (.reg [⟨(some 24), .op (.mov (.tmp 5)), none⟩,
     ⟨(some 25), .op (.mov (.tmp 7)), none⟩,
     ⟨(some 26), .op (.bsl 1 1 [(.str [])] [(0, (.tmp 25))]), none⟩,
     ⟨(some 27), .op (.app 1 16 (.tmp 24) (.tmp 26)), none⟩,
     ⟨(some 5), .op (.mov (.tmp 27)), none⟩])
  .skip))))
 (.reg [⟨(some 28), .op (.bin .add (.tmp 14) (.const (.int .i64 1))), none⟩,
   ⟨(some 14), .op (.mov (.tmp 28)), none⟩]))))
def c35 : AFun := ⟨33, [.tmp 4], false, (.seq (.reg [⟨(some 4), .op (.mov (.const (.str []))), none⟩])
 (.seq (.seq (.reg [⟨(some 8), .op (.mov (.tmp 0)), none⟩,
   ⟨(some 9), .op (.mov (.tmp 1)), none⟩,
   ⟨(some 10), .call 33 [(.tmp 8), (.tmp 9)], none⟩,
   ⟨(some 11), .op (.un .not (.tmp 10)), none⟩])
 (.cond (.tmp 11) (.seq (.reg [⟨(some 4), .op (.mov (.const (.str []))), none⟩])
  (.ret (mk 33 [4])))
 .skip))
 (.seq (.reg [⟨(some 5), .op (.mov (.const .nils)), none⟩])
 (.seq (.seq (.reg [⟨(some 12), .op (.mov (.tmp 0)), none⟩,
   ⟨(some 13), .op (.lenv (.tmp 12)), none⟩,
   ⟨(some 14), .op (.mov (.const (.int .i64 0))), none⟩])
 (.block 0 (.loop c35_m0 c35_b0)))
 (.seq (.reg [⟨(some 29), .op (.mov (.tmp 5)), none⟩,
   ⟨(some 30), .call 63 [(.tmp 29), (.const (.str [44]))], none⟩,
   ⟨(some 31), .op (.bin .add (.const (.str [123])) (.tmp 30)), none⟩,
   ⟨(some 32), .op (.bin .add (.tmp 31) (.const (.str [125]))), none⟩,
   ⟨(some 4), .op (.mov (.tmp 32)), none⟩])
 (.ret (mk 33 [4])))))))⟩
theorem ok35 : FnOK Tryd.prog 35 c35 := ⟨Tryd.f35, _, Tryd.func35, by kernel_rfl, rfl, by kernel_rfl, by kernel_rfl, by kernel_rfl⟩

/-- sizar/sizarref1.LabelText. -/
def c36_m0 : List Bool := (mk 33 [0, 1, 5, 6])
abbrev c36_f0 (v0 v1 v5 v6 : AV) : List AV := FM 33 [(0, v0), (1, v1), (5, v5), (6, v6)]
def c36_b0 : ACode := (.seq (.seq (.reg [⟨(some 11), .op (.mov (.tmp 6)), none⟩,
   ⟨(some 12), .op (.mov (.tmp 0)), none⟩,
   ⟨(some 13), .op (.lenv (.tmp 12)), none⟩,
   ⟨(some 14), .op (.bin .lss (.tmp 11) (.tmp 13)), none⟩])
 (.cond (.tmp 14) .skip
 (.exit 0 (mk 33 [5]))))
 (.seq (.block 1 (.seq (.reg [⟨(some 17), .op (.mov (.tmp 1)), none⟩,
    ⟨(some 18), .op (.mov (.tmp 6)), none⟩,
    ⟨(some 19), .call 62 [(.tmp 17), (.tmp 18)], none⟩])
  (.cond (.tmp 19) (.seq (.seq (.reg [⟨(some 20), .op (.mov (.tmp 5)), none⟩,
     ⟨(some 21), .op (.bin .neq (.tmp 20) (.const (.str []))), none⟩])
   (.cond (.tmp 21) (.reg [⟨(some 22), .op (.mov (.tmp 5)), none⟩,
      ⟨(some 23), .op (.bin .add (.tmp 22) (.const (.str [44]))), none⟩,
      ⟨(some 5), .op (.mov (.tmp 23)), none⟩])
   .skip))
   (.reg [⟨(some 24), .op (.mov (.tmp 5)), none⟩,
     ⟨(some 25), .op (.mov (.tmp 0)), none⟩,
     ⟨(some 26), .op (.mov (.tmp 6)), none⟩,
     ⟨(some 27), .op (.iad 1 (.tmp 25) (.tmp 26)), none⟩,
     ⟨(some 28), .op (.ld none (.tmp 27)), none⟩,
     ⟨(some 29), .op (.bin .add (.tmp 24) (.tmp 28)), none⟩,
     ⟨(some 5), .op (.mov (.tmp 29)), none⟩]))
  .skip)))
 (.reg [⟨(some 15), .op (.mov (.tmp 6)), none⟩,
   ⟨(some 16), .op (.bin .add (.tmp 15) (.const (.int .i64 1))), none⟩,
   ⟨(some 6), .op (.mov (.tmp 16)), none⟩])))
def c36 : AFun := ⟨33, [.tmp 4], false, (.seq (.reg [⟨(some 4), .op (.mov (.const (.str []))), none⟩])
 (.seq (.seq (.reg [⟨(some 7), .op (.mov (.tmp 0)), none⟩,
   ⟨(some 8), .op (.mov (.tmp 1)), none⟩,
   ⟨(some 9), .call 34 [(.tmp 7), (.tmp 8)], none⟩,
   ⟨(some 10), .op (.un .not (.tmp 9)), none⟩])
 (.cond (.tmp 10) (.seq (.reg [⟨(some 4), .op (.mov (.const (.str []))), none⟩])
  (.ret (mk 33 [4])))
 .skip))
 (.seq (.reg [⟨(some 5), .op (.mov (.const (.str []))), none⟩])
 (.seq (.seq (.reg [⟨(some 6), .op (.mov (.const (.int .i64 0))), none⟩])
 (.block 0 (.loop c36_m0 c36_b0)))
 (.seq (.reg [⟨(some 30), .op (.mov (.tmp 5)), none⟩,
   ⟨(some 31), .op (.bin .add (.const (.str [123])) (.tmp 30)), none⟩,
   ⟨(some 32), .op (.bin .add (.tmp 31) (.const (.str [125]))), none⟩,
   ⟨(some 4), .op (.mov (.tmp 32)), none⟩])
 (.ret (mk 33 [4])))))))⟩
theorem ok36 : FnOK Tryd.prog 36 c36 := ⟨Tryd.f36, _, Tryd.func36, by kernel_rfl, rfl, by kernel_rfl, by kernel_rfl, by kernel_rfl⟩

/-- sizar/label.Meet. -/
def c37 : AFun := ⟨8, [.tmp 4], false, (.seq (.reg [⟨(some 4), .op (.mov (.const (.int .u64 0))), none⟩])
 (.seq (.reg [⟨(some 5), .op (.mov (.tmp 0)), none⟩,
   ⟨(some 6), .op (.mov (.tmp 1)), none⟩,
   ⟨(some 7), .op (.bin .and (.tmp 5) (.tmp 6)), none⟩,
   ⟨(some 4), .op (.mov (.tmp 7)), none⟩])
 (.ret (mk 8 [4]))))⟩
theorem ok37 : FnOK Tryd.prog 37 c37 := ⟨Tryd.f37, _, Tryd.func37, by kernel_rfl, rfl, by kernel_rfl, by kernel_rfl, by kernel_rfl⟩

/-- sizar/label.Top. -/
def c38 : AFun := ⟨10, [.tmp 2], false, (.seq (.reg [⟨(some 2), .op (.mov (.const (.int .u64 0))), none⟩])
 (.seq (.seq (.reg [⟨(some 3), .op (.mov (.tmp 0)), none⟩,
   ⟨(some 4), .call 32 [(.tmp 3)], none⟩,
   ⟨(some 5), .op (.un .not (.tmp 4)), none⟩])
 (.cond (.tmp 5) (.seq (.reg [⟨(some 2), .op (.mov (.const (.int .u64 0))), none⟩])
  (.ret (mk 10 [2])))
 .skip))
 (.seq (.reg [⟨(some 6), .op (.mov (.tmp 0)), none⟩,
   ⟨(some 7), .op (.lenv (.tmp 6)), none⟩,
   ⟨(some 8), .op (.bin .sub (.const (.int .i64 64)) (.tmp 7)), none⟩,
   ⟨(some 9), .op (.bin .shr (.const (.int .u64 18446744073709551615)) (.tmp 8)), none⟩,
   ⟨(some 2), .op (.mov (.tmp 9)), none⟩])
 (.ret (mk 10 [2])))))⟩
theorem ok38 : FnOK Tryd.prog 38 c38 := ⟨Tryd.f38, _, Tryd.func38, by kernel_rfl, rfl, by kernel_rfl, by kernel_rfl, by kernel_rfl⟩

/-- sizar/sizarlaw1.names. -/
def c39 : AFun := ⟨2, [.tmp 0], false, (.seq (.reg [⟨(some 0), .op (.mov (.const .nils)), none⟩])
 (.seq (.reg [⟨(some 1), .op (.bsl 1 3 [(.str []), (.str []), (.str [])] [(0, (.const (.str [97]))), (1, (.const (.str [98]))), (2, (.const (.str [99])))]), none⟩,
   ⟨(some 0), .op (.mov (.tmp 1)), none⟩])
 (.ret (mk 2 [0]))))⟩
theorem ok39 : FnOK Tryd.prog 39 c39 := ⟨Tryd.f39, _, Tryd.func39, by kernel_rfl, rfl, by kernel_rfl, by kernel_rfl, by kernel_rfl⟩

/-- sizar/label.Levels. -/
def c40_m0 : List Bool := (mk 38 [1, 5, 6])
abbrev c40_f0 (v1 v5 v6 : AV) : List AV := FM 38 [(1, v1), (5, v5), (6, v6)]
def c40_b0 : ACode := (.seq (.seq (.reg [⟨(some 14), .op (.mov (.tmp 6)), none⟩,
   ⟨(some 15), .op (.bin .neq (.tmp 14) (.const (.int .u64 0))), none⟩])
 (.cond (.tmp 15) .skip
 (.exit 0 (mk 38 [1, 5]))))
 (.seq (.block 1 (.reg [⟨(some 20), .op (.mov (.tmp 5)), none⟩,
    ⟨(some 21), .op (.bin .add (.tmp 20) (.const (.int .i64 1))), none⟩,
    ⟨(some 5), .op (.mov (.tmp 21)), none⟩]))
 (.reg [⟨(some 16), .op (.mov (.tmp 6)), none⟩,
   ⟨(some 17), .op (.mov (.tmp 6)), none⟩,
   ⟨(some 18), .op (.bin .sub (.tmp 17) (.const (.int .u64 1))), none⟩,
   ⟨(some 19), .op (.bin .and (.tmp 16) (.tmp 18)), none⟩,
   ⟨(some 6), .op (.mov (.tmp 19)), none⟩])))
def c40_m1 : List Bool := (mk 38 [1, 7, 8])
abbrev c40_f1 (v1 v7 v8 : AV) : List AV := FM 38 [(1, v1), (7, v7), (8, v8)]
def c40_b1 : ACode := (.seq (.seq (.reg [⟨(some 25), .op (.mov (.tmp 8)), none⟩,
   ⟨(some 26), .op (.mov (.tmp 1)), none⟩,
   ⟨(some 27), .op (.bin .neq (.tmp 25) (.tmp 26)), none⟩])
 (.cond (.tmp 27) .skip
 (.exit 2 (mk 38 [7]))))
 (.block 3 (.seq (.reg [⟨(some 28), .op (.mov (.tmp 8)), none⟩,
    ⟨(some 29), .op (.mov (.tmp 1)), none⟩,
    ⟨(some 30), .op (.bin .sub (.tmp 28) (.tmp 29)), none⟩,
    ⟨(some 31), .op (.mov (.tmp 1)), none⟩,
    ⟨(some 32), .op (.bin .and (.tmp 30) (.tmp 31)), none⟩,
    ⟨(some 8), .op (.mov (.tmp 32)), none⟩])
  (.reg [⟨(some 33), .op (.mov (.tmp 7)), none⟩,
    ⟨(some 34), .op (.mov (.tmp 8)), none⟩,
    ⟨(some 35), .op (.bsl 1 1 [(.int .u64 0)] [(0, (.tmp 34))]), none⟩,
    ⟨(some 36), .op (.app 1 8 (.tmp 33) (.tmp 35)), none⟩,
    ⟨(some 7), .op (.mov (.tmp 36)), none⟩]))))
def c40 : AFun := ⟨38, [.tmp 4], false, (.seq (.reg [⟨(some 4), .op (.mov (.const .nils)), none⟩])
 (.seq (.seq (.reg [⟨(some 9), .op (.mov (.tmp 0)), none⟩,
   ⟨(some 10), .op (.mov (.tmp 1)), none⟩,
   ⟨(some 11), .call 33 [(.tmp 9), (.tmp 10)], none⟩,
   ⟨(some 12), .op (.un .not (.tmp 11)), none⟩])
 (.cond (.tmp 12) (.seq (.reg [⟨(some 4), .op (.mov (.const .nils)), none⟩])
  (.ret (mk 38 [4])))
 .skip))
 (.seq (.reg [⟨(some 5), .op (.mov (.const (.int .i64 0))), none⟩])
 (.seq (.seq (.reg [⟨(some 13), .op (.mov (.tmp 1)), none⟩,
   ⟨(some 6), .op (.mov (.tmp 13)), none⟩])
 (.block 0 (.loop c40_m0 c40_b0)))
 (.seq (.seq (.reg [⟨(some 22), .op (.mov (.tmp 5)), none⟩,
   ⟨(some 23), .op (.bin .gtr (.tmp 22) (.const (.int .i64 8))), none⟩])
 (.cond (.tmp 23) (.seq (.reg [⟨(some 4), .op (.mov (.const .nils)), none⟩])
  (.ret (mk 38 [4])))
 .skip))
 (.seq (.reg [⟨(some 24), .op (.bsl 1 1 [(.int .u64 0)] [(0, (.const (.int .u64 0)))]), none⟩,
   ⟨(some 7), .op (.mov (.tmp 24)), none⟩])
 (.seq (.seq (.reg [⟨(some 8), .op (.mov (.const (.int .u64 0))), none⟩])
 (.block 2 (.loop c40_m1 c40_b1)))
 (.seq (.reg [⟨(some 37), .op (.mov (.tmp 7)), none⟩,
   ⟨(some 4), .op (.mov (.tmp 37)), none⟩])
 (.ret (mk 38 [4]))))))))))⟩
theorem ok40 : FnOK Tryd.prog 40 c40 := ⟨Tryd.f40, _, Tryd.func40, by kernel_rfl, rfl, by kernel_rfl, by kernel_rfl, by kernel_rfl⟩

/-- sizar/sizarlaw17.awake. -/
def c41 : AFun := ⟨38, [.tmp 0], false, (.seq (.reg [⟨(some 0), .op (.mov (.const (.bool false))), none⟩])
 (.seq (.reg [⟨(some 6), .op (.bsl 1 1 [(.str [])] [(0, (.const (.str [97])))]), none⟩,
   ⟨(some 7), .op (.bld [(.str []), (.int .i64 0), (.int .u64 0), (.bool false)] [(0, 1, (.const (.str [112]))), (1, 1, (.const (.int .i64 1))), (2, 1, (.const (.int .u64 1)))]), none⟩,
   ⟨(some 8), .op (.bsl 4 1 [(.str []), (.int .i64 0), (.int .u64 0), (.bool false)] [(0, (.tmp 7))]), none⟩,
   ⟨(some 9), .call 43 [(.tmp 6), (.tmp 8)], none⟩,
   ⟨(some 5), .op (.mov (.tmp 9)), none⟩,
   ⟨(some 10), .op (.ext (.tmp 5) 0), none⟩,
   ⟨(some 11), .op (.ext (.tmp 5) 1), none⟩,
   ⟨(some 1), .op (.mov (.tmp 10)), none⟩,
   ⟨(some 2), .op (.mov (.tmp 11)), none⟩])
 (.seq (.seq (.reg [⟨(some 12), .op (.mov (.tmp 2)), none⟩,
   ⟨(some 13), .op (.bin .neq (.tmp 12) (.const (.int .i64 0))), none⟩,
   ⟨(some 14), .op (.mov (.tmp 13)), none⟩,
   ⟨(some 15), .op (.mov (.tmp 1)), (some (14, false))⟩,
   ⟨(some 16), .op (.peq 0 false (.tmp 15) (.const .nilp)), (some (14, false))⟩,
   ⟨(some 17), .op (.pick (.tmp 14) (.const (.bool true)) (.tmp 16)), none⟩])
 (.cond (.tmp 17) (.seq (.reg [⟨(some 0), .op (.mov (.const (.bool false))), none⟩])
  (.ret (mk 38 [0])))
 .skip))
 (.seq (.reg [⟨(some 19), .op (.mov (.tmp 1)), none⟩,
   ⟨(some 20), .call 44 [(.tmp 19), (.const (.str [112])), (.const (.int .i64 1))], none⟩,
   ⟨(some 18), .op (.mov (.tmp 20)), none⟩,
   ⟨(some 21), .op (.ext (.tmp 18) 0), none⟩,
   ⟨(some 22), .op (.ext (.tmp 18) 1), none⟩,
   ⟨(some 3), .op (.box (.const (.agg [(.str []), (.int .i64 0), (.int .u64 0), (.bool false)]))), none⟩,
   ⟨none, .op (.st 4 (.tmp 3) (.tmp 21)), none⟩,
   ⟨(some 4), .op (.mov (.tmp 22)), none⟩])
 (.seq (.reg [⟨(some 23), .call 42 [(.const (.str [105, 115])), (.const (.int .i64 2))], none⟩,
   ⟨(some 24), .op (.mov (.tmp 23)), none⟩,
   ⟨(some 25), .op (.mov (.tmp 4)), (some (24, true))⟩,
   ⟨(some 26), .op (.pick (.tmp 24) (.tmp 25) (.const (.bool false))), none⟩,
   ⟨(some 27), .op (.mov (.tmp 26)), none⟩,
   ⟨(some 28), .op (.fad 2 (.tmp 3)), (some (27, true))⟩,
   ⟨(some 29), .op (.ld none (.tmp 28)), (some (27, true))⟩,
   ⟨(some 30), .op (.bin .eql (.tmp 29) (.const (.int .u64 1))), (some (27, true))⟩,
   ⟨(some 31), .op (.pick (.tmp 27) (.tmp 30) (.const (.bool false))), none⟩,
   ⟨(some 32), .op (.mov (.tmp 31)), none⟩,
   ⟨(some 33), .op (.mov (.tmp 1)), (some (32, true))⟩,
   ⟨(some 34), .call 64 [(.tmp 33)], (some (32, true))⟩,
   ⟨(some 35), .op (.lenv (.tmp 34)), (some (32, true))⟩,
   ⟨(some 36), .op (.bin .eql (.tmp 35) (.const (.int .i64 1))), (some (32, true))⟩,
   ⟨(some 37), .op (.pick (.tmp 32) (.tmp 36) (.const (.bool false))), none⟩,
   ⟨(some 0), .op (.mov (.tmp 37)), none⟩])
 (.ret (mk 38 [0])))))))⟩
theorem ok41 : FnOK Tryd.prog 41 c41 := ⟨Tryd.f41, _, Tryd.func41, by kernel_rfl, rfl, by kernel_rfl, by kernel_rfl, by kernel_rfl⟩

/-- sizar/sig.Plain. -/
def c42 : AFun := ⟨18, [.tmp 4], false, (.seq (.reg [⟨(some 4), .op (.mov (.const (.bool false))), none⟩])
 (.seq (.reg [⟨(some 5), .op (.mov (.tmp 0)), none⟩,
   ⟨(some 6), .call 65 [(.tmp 5), (.const (.str [32]))], none⟩,
   ⟨(some 7), .op (.un .not (.tmp 6)), none⟩,
   ⟨(some 8), .op (.mov (.tmp 7)), none⟩,
   ⟨(some 9), .op (.mov (.tmp 0)), (some (8, true))⟩,
   ⟨(some 10), .op (.bin .add (.const (.str [32])) (.tmp 9)), (some (8, true))⟩,
   ⟨(some 11), .op (.bin .add (.tmp 10) (.const (.str [47]))), (some (8, true))⟩,
   ⟨(some 12), .op (.mov (.tmp 1)), (some (8, true))⟩,
   ⟨(some 13), .call 66 [(.tmp 12)], (some (8, true))⟩,
   ⟨(some 14), .op (.bin .add (.tmp 11) (.tmp 13)), (some (8, true))⟩,
   ⟨(some 15), .op (.bin .add (.tmp 14) (.const (.str [32]))), (some (8, true))⟩,
   ⟨(some 16), .call 65 [(.const (.str [32, 116, 114, 117, 101, 47, 48, 32, 102, 97, 105, 108, 47, 48, 32, 33, 47, 48, 32, 44, 47, 50, 32, 59, 47, 50, 32, 45, 62, 47, 50, 32, 92, 43, 47, 49, 32, 99, 97, 108, 108, 47, 49, 32, 99, 97, 116, 99, 104, 47, 51, 32, 116, 104, 114, 111, 119, 47, 49, 32, 102, 105, 110, 100, 97, 108, 108, 47, 51, 32, 61, 47, 50, 32, 92, 61, 47, 50, 32, 61, 61, 47, 50, 32, 92, 61, 61, 47, 50, 32, 64, 60, 47, 50, 32, 64, 62, 47, 50, 32, 64, 61, 60, 47, 50, 32, 64, 62, 61, 47, 50, 32, 118, 97, 114, 47, 49, 32, 110, 111, 110, 118, 97, 114, 47, 49, 32, 97, 116, 111, 109, 47, 49, 32, 105, 110, 116, 101, 103, 101, 114, 47, 49, 32, 97, 116, 111, 109, 105, 99, 47, 49, 32, 99, 111, 109, 112, 111, 117, 110, 100, 47, 49, 32, 105, 115, 47, 50, 32, 61, 58, 61, 47, 50, 32, 61, 92, 61, 47, 50, 32, 60, 47, 50, 32, 62, 47, 50, 32, 61, 60, 47, 50, 32, 62, 61, 47, 50, 32, 102, 117, 110, 99, 116, 111, 114, 47, 51, 32, 97, 114, 103, 47, 51, 32, 61, 46, 46, 47, 50, 32, 99, 111, 112, 121, 95, 116, 101, 114, 109, 47, 50, 32, 97, 116, 111, 109, 95, 108, 101, 110, 103, 116, 104, 47, 50, 32, 97, 116, 111, 109, 95, 99, 104, 97, 114, 115, 47, 50, 32, 110, 117, 109, 98, 101, 114, 95, 99, 104, 97, 114, 115, 47, 50, 32, 115, 111, 114, 116, 47, 50, 32, 109, 115, 111, 114, 116, 47, 50, 32, 107, 101, 121, 115, 111, 114, 116, 47, 50, 32, 108, 101, 110, 103, 116, 104, 47, 50, 32, 97, 115, 115, 101, 114, 116, 122, 47, 49, 32, 97, 115, 115, 101, 114, 116, 97, 47, 49, 32, 114, 101, 116, 114, 97, 99, 116, 47, 49, 32, 108, 97, 98, 101, 108, 47, 49, 32, 116, 111, 95, 108, 97, 98, 101, 108, 101, 100, 47, 52, 32, 117, 110, 108, 97, 98, 101, 108, 47, 50, 32, 58, 45, 47, 50, 32])), (.tmp 15)], (some (8, true))⟩,
   ⟨(some 17), .op (.pick (.tmp 8) (.tmp 16) (.const (.bool false))), none⟩,
   ⟨(some 4), .op (.mov (.tmp 17)), none⟩])
 (.ret (mk 18 [4]))))⟩
theorem ok42 : FnOK Tryd.prog 42 c42 := ⟨Tryd.f42, _, Tryd.func42, by kernel_rfl, rfl, by kernel_rfl, by kernel_rfl, by kernel_rfl⟩

/-- sizar/sig.New. -/
def c43_m0 : List Bool := (mk 64 [8, 36, 37, 38])
abbrev c43_f0 (v8 v36 v37 v38 : AV) : List AV := FM 64 [(8, v8), (36, v36), (37, v37), (38, v38)]
def c43_b0 : ACode := (.seq (.reg [⟨(some 39), .op (.bin .lss (.tmp 38) (.tmp 37)), none⟩])
 (.seq (.cond (.tmp 39) .skip
 (.exit 1 (mk 64 [8])))
 (.seq (.block 2 (.seq (.reg [⟨(some 40), .op (.iad 4 (.tmp 36) (.tmp 38)), none⟩,
    ⟨(some 41), .op (.ld (some 4) (.tmp 40)), none⟩,
    ⟨(some 10), .op (.box (.const (.agg [(.str []), (.int .i64 0), (.int .u64 0), (.bool false)]))), none⟩,
    ⟨none, .op (.st 4 (.tmp 10) (.tmp 41)), none⟩])
  (.seq (.seq (.reg [⟨(some 43), .op (.mov (.tmp 8)), none⟩,
    ⟨(some 44), .op (.fad 0 (.tmp 10)), none⟩,
    ⟨(some 45), .op (.ld none (.tmp 44)), none⟩,
    ⟨(some 46), .op (.fad 1 (.tmp 10)), none⟩,
    ⟨(some 47), .op (.ld none (.tmp 46)), none⟩,
    ⟨(some 48), .call 44 [(.tmp 43), (.tmp 45), (.tmp 47)], none⟩,
    ⟨(some 42), .op (.mov (.tmp 48)), none⟩,
    ⟨(some 49), .op (.ext (.tmp 42) 0), none⟩,
    ⟨(some 50), .op (.ext (.tmp 42) 1), none⟩,
    ⟨(some 11), .op (.box (.const (.agg [(.str []), (.int .i64 0), (.int .u64 0), (.bool false)]))), none⟩,
    ⟨none, .op (.st 4 (.tmp 11) (.tmp 49)), none⟩,
    ⟨(some 12), .op (.mov (.tmp 50)), none⟩])
  (.seq (.reg [⟨(some 51), .op (.mov (.tmp 12)), none⟩])
  (.cond (.tmp 51) (.seq (.reg [⟨(some 4), .op (.mov (.const .nilp)), none⟩,
     ⟨(some 5), .op (.mov (.const (.int .i64 14))), none⟩])
   (.ret (mk 64 [4, 5])))
  .skip)))
  (.dreg [⟨(some 52), .op (.mov (.tmp 8)), none⟩,
    ⟨(some 53), .op (.mov (.tmp 8)), none⟩,
    ⟨(some 54), .op (.nck (.tmp 53)), none⟩,
    ⟨(some 55), .op (.fad 1 (.tmp 54)), none⟩,
    ⟨(some 56), .op (.ld none (.tmp 55)), none⟩,
    ⟨(some 57), .op (.ld (some 4) (.tmp 10)), none⟩,
    ⟨(some 58), .op (.bsl 4 1 [(.str []), (.int .i64 0), (.int .u64 0), (.bool false)] [(0, (.tmp 57))]), none⟩,
    ⟨(some 59), .op (.app 4 40 (.tmp 56) (.tmp 58)), none⟩,
    ⟨(some 60), .op (.nck (.tmp 52)), none⟩,
    ⟨(some 61), .op (.fad 1 (.tmp 60)), none⟩,
    ⟨none, .op (.st 1 (.tmp 61) (.tmp 59)), none⟩] [(4, 6)]))))
 (.reg [⟨(some 62), .op (.bin .add (.tmp 38) (.const (.int .i64 1))), none⟩,
   ⟨(some 38), .op (.mov (.tmp 62)), none⟩]))))
def c43 : AFun := ⟨64, [.tmp 4, .tmp 5], false, (.seq (.reg [⟨(some 2), .op (.box (.tmp 0)), none⟩,
   ⟨(some 4), .op (.mov (.const .nilp)), none⟩,
   ⟨(some 5), .op (.mov (.const (.int .i64 0))), none⟩])
 (.seq (.reg [⟨(some 13), .op (.mkf 67 [(.tmp 2)]), none⟩,
   ⟨(some 6), .op (.mov (.tmp 13)), none⟩])
 (.seq (.reg [⟨(some 7), .op (.mov (.const (.fn 69 []))), none⟩])
 (.seq (.block 0 (.seq (.reg [⟨(some 15), .op (.ld none (.tmp 2)), none⟩,
    ⟨(some 16), .call 32 [(.tmp 15)], none⟩,
    ⟨(some 17), .op (.un .not (.tmp 16)), none⟩,
    ⟨(some 18), .op (.mov (.tmp 17)), none⟩,
    ⟨(some 19), .op (.mov (.tmp 1)), (some (18, false))⟩,
    ⟨(some 20), .op (.lenv (.tmp 19)), (some (18, false))⟩,
    ⟨(some 21), .op (.bin .gtr (.tmp 20) (.const (.int .i64 32))), (some (18, false))⟩,
    ⟨(some 22), .op (.pick (.tmp 18) (.const (.bool true)) (.tmp 21)), none⟩,
    ⟨(some 23), .op (.mov (.tmp 22)), none⟩,
    ⟨(some 24), .op (.mov (.tmp 1)), (some (23, false))⟩,
    ⟨(some 25), .op (.mov (.tmp 6)), (some (23, false))⟩,
    ⟨(some 26), .call 70 [(.tmp 24), (.tmp 25)], (some (23, false))⟩,
    ⟨(some 27), .op (.pick (.tmp 23) (.const (.bool true)) (.tmp 26)), none⟩,
    ⟨(some 14), .op (.mov (.tmp 27)), none⟩])
  (.cond (.tmp 14) (.seq (.reg [⟨(some 4), .op (.mov (.const .nilp)), none⟩,
     ⟨(some 5), .op (.mov (.const (.int .i64 1))), none⟩])
   (.ret (mk 64 [4, 5])))
  (.seq (.reg [⟨(some 29), .op (.mov (.tmp 1)), none⟩,
     ⟨(some 30), .op (.mov (.tmp 7)), none⟩,
     ⟨(some 31), .call 70 [(.tmp 29), (.tmp 30)], none⟩,
     ⟨(some 28), .op (.mov (.tmp 31)), none⟩])
   (.cond (.tmp 28) (.seq (.reg [⟨(some 4), .op (.mov (.const .nilp)), none⟩,
      ⟨(some 5), .op (.mov (.const (.int .i64 8))), none⟩])
    (.ret (mk 64 [4, 5])))
   .skip)))))
 (.seq (.reg [⟨(some 32), .op (.ld none (.tmp 2)), none⟩,
   ⟨(some 33), .call 71 [(.tmp 32)], none⟩,
   ⟨(some 34), .op (.bld [.nils, .nils] [(0, 1, (.tmp 33))]), none⟩,
   ⟨(some 35), .op (.box (.tmp 34)), none⟩,
   ⟨(some 8), .op (.mov (.tmp 35)), none⟩])
 (.seq (.seq (.reg [⟨(some 36), .op (.mov (.tmp 1)), none⟩,
   ⟨(some 37), .op (.lenv (.tmp 36)), none⟩,
   ⟨(some 38), .op (.mov (.const (.int .i64 0))), none⟩])
 (.block 1 (.loop c43_m0 c43_b0)))
 (.seq (.reg [⟨(some 63), .op (.mov (.tmp 8)), none⟩,
   ⟨(some 4), .op (.mov (.tmp 63)), none⟩,
   ⟨(some 5), .op (.mov (.const (.int .i64 0))), none⟩])
 (.ret (mk 64 [4, 5])))))))))⟩
theorem ok43 : FnOK Tryd.prog 43 c43 := ⟨Tryd.f43, _, Tryd.func43, by kernel_rfl, rfl, by kernel_rfl, by kernel_rfl, by kernel_rfl⟩

/-- (*sizar/sig.Sig).Find. -/
def c44_m0 : List Bool := (mk 32 [1, 2, 6, 13, 14, 15])
abbrev c44_f0 (v1 v2 v6 v13 v14 v15 : AV) : List AV := FM 32 [(1, v1), (2, v2), (6, v6), (13, v13), (14, v14), (15, v15)]
def c44_b0 : ACode := (.seq (.reg [⟨(some 16), .op (.bin .lss (.tmp 15) (.tmp 14)), none⟩])
 (.seq (.cond (.tmp 16) .skip
 (.exit 0 (mk 32 [6])))
 (.seq (.block 1 (.seq (.reg [⟨(some 17), .op (.iad 4 (.tmp 13) (.tmp 15)), none⟩,
    ⟨(some 18), .op (.ld (some 4) (.tmp 17)), none⟩,
    ⟨(some 9), .op (.box (.const (.agg [(.str []), (.int .i64 0), (.int .u64 0), (.bool false)]))), none⟩,
    ⟨none, .op (.st 4 (.tmp 9) (.tmp 18)), none⟩])
  (.seq (.reg [⟨(some 19), .op (.fad 0 (.tmp 9)), none⟩,
    ⟨(some 20), .op (.ld none (.tmp 19)), none⟩,
    ⟨(some 21), .op (.mov (.tmp 1)), none⟩,
    ⟨(some 22), .op (.bin .eql (.tmp 20) (.tmp 21)), none⟩,
    ⟨(some 23), .op (.mov (.tmp 22)), none⟩,
    ⟨(some 24), .op (.fad 1 (.tmp 9)), (some (23, true))⟩,
    ⟨(some 25), .op (.ld none (.tmp 24)), (some (23, true))⟩,
    ⟨(some 26), .op (.mov (.tmp 2)), (some (23, true))⟩,
    ⟨(some 27), .op (.bin .eql (.tmp 25) (.tmp 26)), (some (23, true))⟩,
    ⟨(some 28), .op (.pick (.tmp 23) (.tmp 27) (.const (.bool false))), none⟩])
  (.cond (.tmp 28) (.seq (.reg [⟨(some 29), .op (.ld (some 4) (.tmp 9)), none⟩,
     ⟨none, .op (.st 4 (.tmp 6) (.tmp 29)), none⟩,
     ⟨(some 7), .op (.mov (.const (.bool true))), none⟩])
   (.ret (mk 32 [6, 7])))
  .skip))))
 (.reg [⟨(some 30), .op (.bin .add (.tmp 15) (.const (.int .i64 1))), none⟩,
   ⟨(some 15), .op (.mov (.tmp 30)), none⟩]))))
def c44 : AFun := ⟨32, [.cell 6 (some 4), .tmp 7], false, (.seq (.reg [⟨(some 6), .op (.box (.const (.agg [(.str []), (.int .i64 0), (.int .u64 0), (.bool false)]))), none⟩,
   ⟨(some 7), .op (.mov (.const (.bool false))), none⟩])
 (.seq (.seq (.reg [⟨(some 10), .op (.mov (.tmp 0)), none⟩,
   ⟨(some 11), .op (.nck (.tmp 10)), none⟩,
   ⟨(some 12), .op (.fad 1 (.tmp 11)), none⟩,
   ⟨(some 13), .op (.ld none (.tmp 12)), none⟩,
   ⟨(some 14), .op (.lenv (.tmp 13)), none⟩,
   ⟨(some 15), .op (.mov (.const (.int .i64 0))), none⟩])
 (.block 0 (.loop c44_m0 c44_b0)))
 (.seq (.reg [⟨(some 31), .op (.bld [(.str []), (.int .i64 0), (.int .u64 0), (.bool false)] []), none⟩,
   ⟨none, .op (.st 4 (.tmp 6) (.tmp 31)), none⟩,
   ⟨(some 7), .op (.mov (.const (.bool false))), none⟩])
 (.ret (mk 32 [6, 7])))))⟩
theorem ok44 : FnOK Tryd.prog 44 c44 := ⟨Tryd.f44, _, Tryd.func44, by kernel_rfl, rfl, by kernel_rfl, by kernel_rfl, by kernel_rfl⟩

/-- (*sizar/sig.Sig).Of. -/
def c45 : AFun := ⟨45, [.cell 4 (some 4), .tmp 5], false, (.seq (.reg [⟨(some 3), .op (.box (.tmp 1)), none⟩,
   ⟨(some 4), .op (.box (.const (.agg [(.str []), (.int .i64 0), (.int .u64 0), (.bool false)]))), none⟩,
   ⟨(some 5), .op (.mov (.const (.int .i64 0))), none⟩])
 (.seq (.block 0 (.seq (.reg [⟨(some 9), .op (.ld (some 4) (.tmp 3)), none⟩,
    ⟨(some 10), .call 16 [(.tmp 9)], none⟩,
    ⟨(some 11), .op (.un .not (.tmp 10)), none⟩,
    ⟨(some 8), .op (.mov (.tmp 11)), none⟩])
  (.cond (.tmp 8) (.seq (.reg [⟨(some 12), .op (.bld [(.str []), (.int .i64 0), (.int .u64 0), (.bool false)] []), none⟩,
     ⟨none, .op (.st 4 (.tmp 4) (.tmp 12)), none⟩,
     ⟨(some 5), .op (.mov (.const (.int .i64 1))), none⟩])
   (.ret (mk 45 [4, 5])))
  (.seq (.reg [⟨(some 14), .op (.fad 0 (.tmp 3)), none⟩,
     ⟨(some 15), .op (.ld none (.tmp 14)), none⟩,
     ⟨(some 16), .op (.bin .eql (.tmp 15) (.const (.int .i64 0))), none⟩,
     ⟨(some 13), .op (.mov (.tmp 16)), none⟩])
   (.cond (.tmp 13) (.seq (.reg [⟨(some 17), .op (.bld [(.str []), (.int .i64 0), (.int .u64 0), (.bool false)] []), none⟩,
      ⟨none, .op (.st 4 (.tmp 4) (.tmp 17)), none⟩,
      ⟨(some 5), .op (.mov (.const (.int .i64 6))), none⟩])
    (.ret (mk 45 [4, 5])))
   (.seq (.reg [⟨(some 19), .op (.fad 0 (.tmp 3)), none⟩,
      ⟨(some 20), .op (.ld none (.tmp 19)), none⟩,
      ⟨(some 21), .op (.bin .eql (.tmp 20) (.const (.int .i64 1))), none⟩,
      ⟨(some 18), .op (.mov (.tmp 21)), none⟩])
    (.cond (.tmp 18) (.seq (.reg [⟨(some 22), .op (.bld [(.str []), (.int .i64 0), (.int .u64 0), (.bool false)] []), none⟩,
       ⟨none, .op (.st 4 (.tmp 4) (.tmp 22)), none⟩,
       ⟨(some 5), .op (.mov (.const (.int .i64 5))), none⟩])
     (.ret (mk 45 [4, 5])))
    (.seq (.reg [⟨(some 24), .op (.fad 2 (.tmp 3)), none⟩,
       ⟨(some 25), .op (.ld none (.tmp 24)), none⟩,
       ⟨(some 26), .op (.fad 3 (.tmp 3)), none⟩,
       ⟨(some 27), .op (.ld none (.tmp 26)), none⟩,
       ⟨(some 28), .op (.lenv (.tmp 27)), none⟩,
       ⟨(some 29), .call 42 [(.tmp 25), (.tmp 28)], none⟩,
       ⟨(some 23), .op (.mov (.tmp 29)), none⟩])
     (.cond (.tmp 23) (.seq (.reg [⟨(some 30), .op (.bld [(.str []), (.int .i64 0), (.int .u64 0), (.bool false)] []), none⟩,
        ⟨none, .op (.st 4 (.tmp 4) (.tmp 30)), none⟩,
        ⟨(some 5), .op (.mov (.const (.int .i64 8))), none⟩])
      (.ret (mk 45 [4, 5])))
     .skip)))))))))
 (.seq (.reg [⟨(some 32), .op (.mov (.tmp 0)), none⟩,
   ⟨(some 33), .op (.fad 2 (.tmp 3)), none⟩,
   ⟨(some 34), .op (.ld none (.tmp 33)), none⟩,
   ⟨(some 35), .op (.fad 3 (.tmp 3)), none⟩,
   ⟨(some 36), .op (.ld none (.tmp 35)), none⟩,
   ⟨(some 37), .op (.lenv (.tmp 36)), none⟩,
   ⟨(some 38), .call 44 [(.tmp 32), (.tmp 34), (.tmp 37)], none⟩,
   ⟨(some 31), .op (.mov (.tmp 38)), none⟩,
   ⟨(some 39), .op (.ext (.tmp 31) 0), none⟩,
   ⟨(some 40), .op (.ext (.tmp 31) 1), none⟩,
   ⟨(some 6), .op (.box (.const (.agg [(.str []), (.int .i64 0), (.int .u64 0), (.bool false)]))), none⟩,
   ⟨none, .op (.st 4 (.tmp 6) (.tmp 39)), none⟩,
   ⟨(some 7), .op (.mov (.tmp 40)), none⟩])
 (.seq (.seq (.reg [⟨(some 41), .op (.mov (.tmp 7)), none⟩,
   ⟨(some 42), .op (.un .not (.tmp 41)), none⟩])
 (.cond (.tmp 42) (.seq (.reg [⟨(some 43), .op (.bld [(.str []), (.int .i64 0), (.int .u64 0), (.bool false)] []), none⟩,
    ⟨none, .op (.st 4 (.tmp 4) (.tmp 43)), none⟩,
    ⟨(some 5), .op (.mov (.const (.int .i64 7))), none⟩])
  (.ret (mk 45 [4, 5])))
 .skip))
 (.seq (.reg [⟨(some 44), .op (.ld (some 4) (.tmp 6)), none⟩,
   ⟨none, .op (.st 4 (.tmp 4) (.tmp 44)), none⟩,
   ⟨(some 5), .op (.mov (.const (.int .i64 0))), none⟩])
 (.ret (mk 45 [4, 5])))))))⟩
theorem ok45 : FnOK Tryd.prog 45 c45 := ⟨Tryd.f45, _, Tryd.func45, by kernel_rfl, rfl, by kernel_rfl, by kernel_rfl, by kernel_rfl⟩

/-- (*sizar/sig.Sig).Names. -/
def c46 : AFun := ⟨8, [.tmp 2], false, (.seq (.reg [⟨(some 2), .op (.mov (.const .nils)), none⟩])
 (.seq (.reg [⟨(some 3), .op (.mov (.tmp 0)), none⟩,
   ⟨(some 4), .op (.nck (.tmp 3)), none⟩,
   ⟨(some 5), .op (.fad 0 (.tmp 4)), none⟩,
   ⟨(some 6), .op (.ld none (.tmp 5)), none⟩,
   ⟨(some 7), .call 71 [(.tmp 6)], none⟩,
   ⟨(some 2), .op (.mov (.tmp 7)), none⟩])
 (.ret (mk 8 [2]))))⟩
theorem ok46 : FnOK Tryd.prog 46 c46 := ⟨Tryd.f46, _, Tryd.func46, by kernel_rfl, rfl, by kernel_rfl, by kernel_rfl, by kernel_rfl⟩

/-- sizar/term.Size. -/
def c47 : AFun := ⟨8, [.tmp 2], false, (.seq (.reg [⟨(some 1), .op (.box (.tmp 0)), none⟩,
   ⟨(some 2), .op (.mov (.const (.int .i64 0))), none⟩])
 (.seq (.reg [⟨(some 3), .op (.box (.const (.agg [(.int .i64 0)]))), none⟩,
   ⟨none, .op (.st 1 (.tmp 3) (.const (.int .i64 0))), none⟩])
 (.seq (.reg [⟨(some 4), .op (.ld (some 4) (.tmp 1)), none⟩,
   ⟨(some 5), .op (.mkf 72 [(.tmp 3)]), none⟩,
   ⟨(some 6), .call 49 [(.tmp 4), (.tmp 5)], none⟩])
 (.seq (.reg [⟨(some 7), .op (.ld none (.tmp 3)), none⟩,
   ⟨(some 2), .op (.mov (.tmp 7)), none⟩])
 (.ret (mk 8 [2]))))))⟩
theorem ok47 : FnOK Tryd.prog 47 c47 := ⟨Tryd.f47, _, Tryd.func47, by kernel_rfl, rfl, by kernel_rfl, by kernel_rfl, by kernel_rfl⟩

/-- sizar/term.Depth. -/
def c48 : AFun := ⟨5, [.tmp 2], false, (.seq (.reg [⟨(some 1), .op (.box (.tmp 0)), none⟩,
   ⟨(some 2), .op (.mov (.const (.int .i64 0))), none⟩])
 (.seq (.reg [⟨(some 3), .op (.ld (some 4) (.tmp 1)), none⟩,
   ⟨(some 4), .call 73 [(.tmp 3), (.const (.int .i64 65))], none⟩,
   ⟨(some 2), .op (.mov (.tmp 4)), none⟩])
 (.ret (mk 5 [2]))))⟩
theorem ok48 : FnOK Tryd.prog 48 c48 := ⟨Tryd.f48, _, Tryd.func48, by kernel_rfl, rfl, by kernel_rfl, by kernel_rfl, by kernel_rfl⟩

/-- sizar/term.each. -/
def c49_m0 : List Bool := (mk 44 [1, 5, 6, 7])
abbrev c49_f0 (v1 v5 v6 v7 : AV) : List AV := FM 44 [(1, v1), (5, v5), (6, v6), (7, v7)]
def c49_b0 : ACode := (.seq (.seq (.reg [⟨(some 32), .op (.mov (.tmp 7)), none⟩,
   ⟨(some 33), .op (.bin .geq (.tmp 32) (.const (.int .i64 0))), none⟩])
 (.cond (.tmp 33) .skip
 (.exit 2 (mk 44 [1, 5]))))
 (.seq (.block 3 (.reg [⟨(some 36), .op (.mov (.tmp 5)), none⟩,
    ⟨(some 37), .op (.fad 3 (.tmp 6)), none⟩,
    ⟨(some 38), .op (.ld none (.tmp 37)), none⟩,
    ⟨(some 39), .op (.mov (.tmp 7)), none⟩,
    ⟨(some 40), .op (.iad 4 (.tmp 38) (.tmp 39)), none⟩,
    ⟨(some 41), .op (.ld (some 4) (.tmp 40)), none⟩,
    ⟨(some 42), .op (.bsl 4 1 [(.int .i64 0), (.int .i64 0), (.str []), .nils] [(0, (.tmp 41))]), none⟩,
    ⟨(some 43), .op (.app 4 56 (.tmp 36) (.tmp 42)), none⟩,
    ⟨(some 5), .op (.mov (.tmp 43)), none⟩]))
 (.reg [⟨(some 34), .op (.mov (.tmp 7)), none⟩,
   ⟨(some 35), .op (.bin .sub (.tmp 34) (.const (.int .i64 1))), none⟩,
   ⟨(some 7), .op (.mov (.tmp 35)), none⟩])))
def c49_m1 : List Bool := (mk 44 [1, 5])
abbrev c49_f1 (v1 v5 : AV) : List AV := FM 44 [(1, v1), (5, v5)]
def c49_b1 : ACode := (.seq (.seq (.reg [⟨(some 10), .op (.mov (.tmp 5)), none⟩,
   ⟨(some 11), .op (.lenv (.tmp 10)), none⟩,
   ⟨(some 12), .op (.bin .gtr (.tmp 11) (.const (.int .i64 0))), none⟩])
 (.cond (.tmp 12) .skip
 (.exit 0 (mk 44 []))))
 (.block 1 (.seq (.reg [⟨(some 13), .op (.mov (.tmp 5)), none⟩,
    ⟨(some 14), .op (.mov (.tmp 5)), none⟩,
    ⟨(some 15), .op (.lenv (.tmp 14)), none⟩,
    ⟨(some 16), .op (.bin .sub (.tmp 15) (.const (.int .i64 1))), none⟩,
    ⟨(some 17), .op (.iad 4 (.tmp 13) (.tmp 16)), none⟩,
    ⟨(some 18), .op (.ld (some 4) (.tmp 17)), none⟩,
    ⟨(some 6), .op (.box (.const (.agg [(.int .i64 0), (.int .i64 0), (.str []), .nils]))), none⟩,
    ⟨none, .op (.st 4 (.tmp 6) (.tmp 18)), none⟩])
  (.seq (.reg [⟨(some 19), .op (.mov (.tmp 5)), none⟩,
    ⟨(some 20), .op (.mov (.tmp 5)), none⟩,
    ⟨(some 21), .op (.lenv (.tmp 20)), none⟩,
    ⟨(some 22), .op (.bin .sub (.tmp 21) (.const (.int .i64 1))), none⟩,
    ⟨(some 23), .op (.slv 4 (.tmp 19) none (some (.tmp 22)) none), none⟩,
    ⟨(some 5), .op (.mov (.tmp 23)), none⟩])
  (.seq (.seq (.reg [⟨(some 24), .op (.mov (.tmp 1)), none⟩,
    ⟨(some 25), .op (.ld (some 4) (.tmp 6)), none⟩,
    ⟨(some 26), .callv (.tmp 24) [(.tmp 25)], none⟩,
    ⟨(some 27), .op (.un .not (.tmp 26)), none⟩])
  (.cond (.tmp 27) (.seq (.reg [⟨(some 4), .op (.mov (.const (.bool false))), none⟩])
   (.ret (mk 44 [4])))
  .skip))
  (.seq (.reg [⟨(some 28), .op (.fad 3 (.tmp 6)), none⟩,
    ⟨(some 29), .op (.ld none (.tmp 28)), none⟩,
    ⟨(some 30), .op (.lenv (.tmp 29)), none⟩,
    ⟨(some 31), .op (.bin .sub (.tmp 30) (.const (.int .i64 1))), none⟩,
    ⟨(some 7), .op (.mov (.tmp 31)), none⟩])
  (.block 2 (.loop c49_m0 c49_b0))))))))
def c49 : AFun := ⟨44, [.tmp 4], false, (.seq (.reg [⟨(some 2), .op (.box (.tmp 0)), none⟩,
   ⟨(some 4), .op (.mov (.const (.bool false))), none⟩])
 (.seq (.reg [⟨(some 8), .op (.ld (some 4) (.tmp 2)), none⟩,
   ⟨(some 9), .op (.bsl 4 1 [(.int .i64 0), (.int .i64 0), (.str []), .nils] [(0, (.tmp 8))]), none⟩,
   ⟨(some 5), .op (.mov (.tmp 9)), none⟩])
 (.seq (.block 0 (.loop c49_m1 c49_b1))
 (.seq (.reg [⟨(some 4), .op (.mov (.const (.bool true))), none⟩])
 (.ret (mk 44 [4]))))))⟩
theorem ok49 : FnOK Tryd.prog 49 c49 := ⟨Tryd.f49, _, Tryd.func49, by kernel_rfl, rfl, by kernel_rfl, by kernel_rfl, by kernel_rfl⟩

/-- sizar/term.goodOne. -/
def c50 : AFun := ⟨53, [.tmp 2], false, (.seq (.reg [⟨(some 1), .op (.box (.tmp 0)), none⟩,
   ⟨(some 2), .op (.mov (.const (.bool false))), none⟩])
 (.seq (.seq (.reg [⟨(some 3), .op (.fad 0 (.tmp 1)), none⟩,
   ⟨(some 4), .op (.ld none (.tmp 3)), none⟩])
 (.block 0 (.seq (.reg [⟨(some 6), .op (.bin .eql (.tmp 4) (.const (.int .i64 0))), none⟩,
    ⟨(some 5), .op (.mov (.tmp 6)), none⟩])
  (.cond (.tmp 5) (.seq (.reg [⟨(some 7), .op (.fad 1 (.tmp 1)), none⟩,
     ⟨(some 8), .op (.ld none (.tmp 7)), none⟩,
     ⟨(some 9), .op (.bin .geq (.tmp 8) (.const (.int .i64 0))), none⟩,
     ⟨(some 10), .op (.mov (.tmp 9)), none⟩,
     ⟨(some 11), .op (.fad 1 (.tmp 1)), (some (10, true))⟩,
     ⟨(some 12), .op (.ld none (.tmp 11)), (some (10, true))⟩,
     ⟨(some 13), .op (.bin .leq (.tmp 12) (.const (.int .i64 2147483647))), (some (10, true))⟩,
     ⟨(some 14), .op (.pick (.tmp 10) (.tmp 13) (.const (.bool false))), none⟩,
     ⟨(some 15), .op (.mov (.tmp 14)), none⟩,
     ⟨(some 16), .op (.fad 2 (.tmp 1)), (some (15, true))⟩,
     ⟨(some 17), .op (.ld none (.tmp 16)), (some (15, true))⟩,
     ⟨(some 18), .op (.bin .eql (.tmp 17) (.const (.str []))), (some (15, true))⟩,
     ⟨(some 19), .op (.pick (.tmp 15) (.tmp 18) (.const (.bool false))), none⟩,
     ⟨(some 20), .op (.mov (.tmp 19)), none⟩,
     ⟨(some 21), .op (.fad 3 (.tmp 1)), (some (20, true))⟩,
     ⟨(some 22), .op (.ld none (.tmp 21)), (some (20, true))⟩,
     ⟨(some 23), .op (.lenv (.tmp 22)), (some (20, true))⟩,
     ⟨(some 24), .op (.bin .eql (.tmp 23) (.const (.int .i64 0))), (some (20, true))⟩,
     ⟨(some 25), .op (.pick (.tmp 20) (.tmp 24) (.const (.bool false))), none⟩,
     ⟨(some 2), .op (.mov (.tmp 25)), none⟩])
   (.ret (mk 53 [2])))
  (.seq (.reg [⟨(some 27), .op (.bin .eql (.tmp 4) (.const (.int .i64 1))), none⟩,
     ⟨(some 26), .op (.mov (.tmp 27)), none⟩])
   (.cond (.tmp 26) (.seq (.reg [⟨(some 28), .op (.fad 2 (.tmp 1)), none⟩,
      ⟨(some 29), .op (.ld none (.tmp 28)), none⟩,
      ⟨(some 30), .op (.bin .eql (.tmp 29) (.const (.str []))), none⟩,
      ⟨(some 31), .op (.mov (.tmp 30)), none⟩,
      ⟨(some 32), .op (.fad 3 (.tmp 1)), (some (31, true))⟩,
      ⟨(some 33), .op (.ld none (.tmp 32)), (some (31, true))⟩,
      ⟨(some 34), .op (.lenv (.tmp 33)), (some (31, true))⟩,
      ⟨(some 35), .op (.bin .eql (.tmp 34) (.const (.int .i64 0))), (some (31, true))⟩,
      ⟨(some 36), .op (.pick (.tmp 31) (.tmp 35) (.const (.bool false))), none⟩,
      ⟨(some 2), .op (.mov (.tmp 36)), none⟩])
    (.ret (mk 53 [2])))
   (.seq (.reg [⟨(some 38), .op (.bin .eql (.tmp 4) (.const (.int .i64 2))), none⟩,
      ⟨(some 37), .op (.mov (.tmp 38)), none⟩])
    (.cond (.tmp 37) (.seq (.reg [⟨(some 39), .op (.fad 1 (.tmp 1)), none⟩,
       ⟨(some 40), .op (.ld none (.tmp 39)), none⟩,
       ⟨(some 41), .op (.bin .eql (.tmp 40) (.const (.int .i64 0))), none⟩,
       ⟨(some 42), .op (.mov (.tmp 41)), none⟩,
       ⟨(some 43), .op (.fad 2 (.tmp 1)), (some (42, true))⟩,
       ⟨(some 44), .op (.ld none (.tmp 43)), (some (42, true))⟩,
       ⟨(some 45), .call 74 [(.tmp 44)], (some (42, true))⟩,
       ⟨(some 46), .op (.pick (.tmp 42) (.tmp 45) (.const (.bool false))), none⟩,
       ⟨(some 47), .op (.mov (.tmp 46)), none⟩,
       ⟨(some 48), .op (.fad 3 (.tmp 1)), (some (47, true))⟩,
       ⟨(some 49), .op (.ld none (.tmp 48)), (some (47, true))⟩,
       ⟨(some 50), .op (.lenv (.tmp 49)), (some (47, true))⟩,
       ⟨(some 51), .op (.bin .leq (.tmp 50) (.const (.int .i64 8))), (some (47, true))⟩,
       ⟨(some 52), .op (.pick (.tmp 47) (.tmp 51) (.const (.bool false))), none⟩,
       ⟨(some 2), .op (.mov (.tmp 52)), none⟩])
     (.ret (mk 53 [2])))
    .skip))))))))
 (.seq (.reg [⟨(some 2), .op (.mov (.const (.bool false))), none⟩])
 (.ret (mk 53 [2])))))⟩
theorem ok50 : FnOK Tryd.prog 50 c50 := ⟨Tryd.f50, _, Tryd.func50, by kernel_rfl, rfl, by kernel_rfl, by kernel_rfl, by kernel_rfl⟩

/-- sizar/alias.Replace. -/
def c51_m0 : List Bool := (mk 42 [1, 4, 7, 26, 27, 28])
abbrev c51_f0 (v1 v4 v7 v26 v27 v28 : AV) : List AV := FM 42 [(1, v1), (4, v4), (7, v7), (26, v26), (27, v27), (28, v28)]
def c51_b0 : ACode := (.seq (.reg [⟨(some 29), .op (.bin .lss (.tmp 28) (.tmp 27)), none⟩])
 (.seq (.cond (.tmp 29) .skip
 (.exit 0 (mk 42 [4, 7])))
 (.seq (.block 1 (.seq (.reg [⟨(some 30), .op (.iad 4 (.tmp 26) (.tmp 28)), none⟩,
    ⟨(some 31), .op (.ld (some 4) (.tmp 30)), none⟩,
    ⟨(some 9), .op (.box (.const (.agg [(.int .i64 0), (.int .i64 0), (.str []), .nils]))), none⟩,
    ⟨none, .op (.st 4 (.tmp 9) (.tmp 31)), none⟩])
  (.dreg [⟨(some 32), .op (.fad 3 (.tmp 7)), none⟩,
    ⟨(some 33), .op (.ld none (.tmp 32)), none⟩,
    ⟨(some 34), .op (.ld (some 4) (.tmp 9)), none⟩,
    ⟨(some 35), .op (.mov (.tmp 1)), none⟩,
    ⟨(some 36), .call 51 [(.tmp 34), (.tmp 35)], none⟩,
    ⟨(some 37), .op (.bsl 4 1 [(.int .i64 0), (.int .i64 0), (.str []), .nils] [(0, (.tmp 36))]), none⟩,
    ⟨(some 38), .op (.app 4 56 (.tmp 33) (.tmp 37)), none⟩,
    ⟨(some 39), .op (.fad 3 (.tmp 7)), none⟩,
    ⟨none, .op (.st 1 (.tmp 39) (.tmp 38)), none⟩] [(1, 4), (1, 5)])))
 (.reg [⟨(some 40), .op (.bin .add (.tmp 28) (.const (.int .i64 1))), none⟩,
   ⟨(some 28), .op (.mov (.tmp 40)), none⟩]))))
def c51 : AFun := ⟨42, [.cell 4 (some 4)], false, (.seq (.reg [⟨(some 2), .op (.box (.tmp 0)), none⟩,
   ⟨(some 4), .op (.box (.const (.agg [(.int .i64 0), (.int .i64 0), (.str []), .nils]))), none⟩])
 (.seq (.seq (.reg [⟨(some 10), .op (.fad 0 (.tmp 2)), none⟩,
   ⟨(some 11), .op (.ld none (.tmp 10)), none⟩,
   ⟨(some 12), .op (.bin .eql (.tmp 11) (.const (.int .i64 0))), none⟩])
 (.cond (.tmp 12) (.seq (.seq (.reg [⟨(some 14), .op (.mov (.tmp 1)), none⟩,
    ⟨(some 15), .op (.fad 1 (.tmp 2)), none⟩,
    ⟨(some 16), .op (.ld none (.tmp 15)), none⟩,
    ⟨(some 17), .op (.lkp 1 (.agg [(.int .i64 0), (.int .i64 0), (.str []), .nils]) true (.tmp 14) (.tmp 16)), none⟩,
    ⟨(some 13), .op (.mov (.tmp 17)), none⟩,
    ⟨(some 18), .op (.ext (.tmp 13) 0), none⟩,
    ⟨(some 19), .op (.ext (.tmp 13) 1), none⟩,
    ⟨(some 5), .op (.box (.const (.agg [(.int .i64 0), (.int .i64 0), (.str []), .nils]))), none⟩,
    ⟨none, .op (.st 4 (.tmp 5) (.tmp 18)), none⟩,
    ⟨(some 6), .op (.mov (.tmp 19)), none⟩])
  (.seq (.reg [⟨(some 20), .op (.mov (.tmp 6)), none⟩])
  (.cond (.tmp 20) (.seq (.reg [⟨(some 21), .op (.ld (some 4) (.tmp 5)), none⟩,
     ⟨none, .op (.st 4 (.tmp 4) (.tmp 21)), none⟩])
   (.ret (mk 42 [4])))
  .skip)))
  (.seq (.reg [⟨(some 22), .op (.ld (some 4) (.tmp 2)), none⟩,
    ⟨none, .op (.st 4 (.tmp 4) (.tmp 22)), none⟩])
  (.ret (mk 42 [4]))))
 .skip))
 (.seq (.reg [⟨(some 23), .op (.ld (some 4) (.tmp 2)), none⟩,
   ⟨(some 7), .op (.box (.const (.agg [(.int .i64 0), (.int .i64 0), (.str []), .nils]))), none⟩,
   ⟨none, .op (.st 4 (.tmp 7) (.tmp 23)), none⟩])
 (.seq (.reg [⟨(some 24), .op (.fad 3 (.tmp 7)), none⟩,
   ⟨none, .op (.st 1 (.tmp 24) (.const .nils)), none⟩])
 (.seq (.seq (.reg [⟨(some 25), .op (.fad 3 (.tmp 2)), none⟩,
   ⟨(some 26), .op (.ld none (.tmp 25)), none⟩,
   ⟨(some 27), .op (.lenv (.tmp 26)), none⟩,
   ⟨(some 28), .op (.mov (.const (.int .i64 0))), none⟩])
 (.block 0 (.loop c51_m0 c51_b0)))
 (.seq (.reg [⟨(some 41), .op (.ld (some 4) (.tmp 7)), none⟩,
   ⟨none, .op (.st 4 (.tmp 4) (.tmp 41)), none⟩])
 (.ret (mk 42 [4]))))))))⟩
theorem ok51 : FnOK Tryd.prog 51 c51 := ⟨Tryd.f51, _, Tryd.func51, by kernel_rfl, rfl, by kernel_rfl, by kernel_rfl, by kernel_rfl⟩

/-- sizar/term.same. -/
def c52 : AFun := ⟨31, [.tmp 4], false, (.seq (.reg [⟨(some 2), .op (.box (.tmp 0)), none⟩,
   ⟨(some 3), .op (.box (.tmp 1)), none⟩,
   ⟨(some 4), .op (.mov (.const (.bool false))), none⟩])
 (.seq (.reg [⟨(some 5), .op (.fad 0 (.tmp 2)), none⟩,
   ⟨(some 6), .op (.ld none (.tmp 5)), none⟩,
   ⟨(some 7), .op (.fad 0 (.tmp 3)), none⟩,
   ⟨(some 8), .op (.ld none (.tmp 7)), none⟩,
   ⟨(some 9), .op (.bin .eql (.tmp 6) (.tmp 8)), none⟩,
   ⟨(some 10), .op (.mov (.tmp 9)), none⟩,
   ⟨(some 11), .op (.fad 1 (.tmp 2)), (some (10, true))⟩,
   ⟨(some 12), .op (.ld none (.tmp 11)), (some (10, true))⟩,
   ⟨(some 13), .op (.fad 1 (.tmp 3)), (some (10, true))⟩,
   ⟨(some 14), .op (.ld none (.tmp 13)), (some (10, true))⟩,
   ⟨(some 15), .op (.bin .eql (.tmp 12) (.tmp 14)), (some (10, true))⟩,
   ⟨(some 16), .op (.pick (.tmp 10) (.tmp 15) (.const (.bool false))), none⟩,
   ⟨(some 17), .op (.mov (.tmp 16)), none⟩,
   ⟨(some 18), .op (.fad 2 (.tmp 2)), (some (17, true))⟩,
   ⟨(some 19), .op (.ld none (.tmp 18)), (some (17, true))⟩,
   ⟨(some 20), .op (.fad 2 (.tmp 3)), (some (17, true))⟩,
   ⟨(some 21), .op (.ld none (.tmp 20)), (some (17, true))⟩,
   ⟨(some 22), .op (.bin .eql (.tmp 19) (.tmp 21)), (some (17, true))⟩,
   ⟨(some 23), .op (.pick (.tmp 17) (.tmp 22) (.const (.bool false))), none⟩,
   ⟨(some 24), .op (.mov (.tmp 23)), none⟩,
   ⟨(some 25), .op (.fad 3 (.tmp 2)), (some (24, true))⟩,
   ⟨(some 26), .op (.ld none (.tmp 25)), (some (24, true))⟩,
   ⟨(some 27), .op (.fad 3 (.tmp 3)), (some (24, true))⟩,
   ⟨(some 28), .op (.ld none (.tmp 27)), (some (24, true))⟩,
   ⟨(some 29), .call 75 [(.tmp 26), (.tmp 28), (.const (.fn 52 []))], (some (24, true))⟩,
   ⟨(some 30), .op (.pick (.tmp 24) (.tmp 29) (.const (.bool false))), none⟩,
   ⟨(some 4), .op (.mov (.tmp 30)), none⟩])
 (.ret (mk 31 [4]))))⟩
theorem ok52 : FnOK Tryd.prog 52 c52 := ⟨Tryd.f52, _, Tryd.func52, by kernel_rfl, rfl, by kernel_rfl, by kernel_rfl, by kernel_rfl⟩

/-- slices.Clone[[]sizar/term.Term,sizar/term.Term]. -/
def c53 : AFun := ⟨8, [.tmp 2], true, (.seq (.reg [⟨(some 2), .op (.mov (.const .nils)), none⟩])
 (.seq (.seq (.reg [⟨(some 3), .op (.mov (.tmp 0)), none⟩,
   ⟨(some 4), .op (.snil false (.tmp 3)), none⟩])
 (.cond (.tmp 4) (.seq (.reg [⟨(some 2), .op (.mov (.const .nils)), none⟩])
  (.ret (mk 8 [2])))
 .skip))
 (.seq (.reg [⟨(some 5), .op (.bs0), none⟩,
   ⟨(some 6), .op (.mov (.tmp 0)), none⟩,
   ⟨(some 7), .op (.app 4 56 (.tmp 5) (.tmp 6)), none⟩,
   ⟨(some 2), .op (.mov (.tmp 7)), none⟩])
 (.ret (mk 8 [2])))))⟩
theorem ok53 : FnOK Tryd.prog 53 c53 := ⟨Tryd.f53, _, Tryd.func53, by kernel_rfl, rfl, by kernel_rfl, by kernel_rfl, by kernel_rfl⟩

theorem clone53 : CloneAt Tryd.prog 53 := ⟨⟨Tryd.f53, _, _, _, _, _, _, _, 33, _, (.reg [⟨(some 2), .op (.mov (.const .nils)), none⟩]),
 (.seq (.reg [⟨(some 2), .op (.mov (.const .nils)), none⟩])
 (.ret (mk 0 []))),
 (.seq (.reg [⟨(some 5), .op (.bs0), none⟩,
   ⟨(some 6), .op (.mov (.tmp 0)), none⟩,
   ⟨(some 7), .op (.app 4 56 (.tmp 5) (.tmp 6)), none⟩,
   ⟨(some 2), .op (.mov (.tmp 7)), none⟩])
 (.ret (mk 0 []))),
 Tryd.func53, by kernel_rfl, rfl, by kernel_rfl, by kernel_rfl, by kernel_rfl, rfl, by kernel_rfl, by kernel_rfl, by kernel_rfl, by kernel_rfl, by kernel_rfl, by kernel_rfl, fun _ _ => rfl, fun _ _ => rfl, fun _ hv _ => by rcases hv with rfl | rfl <;> rfl⟩⟩

/-- strings.Split. -/
def c54 : AFun := ⟨8, [.tmp 4], false, (.seq (.reg [⟨(some 4), .op (.mov (.const .nils)), none⟩])
 (.seq (.reg [⟨(some 5), .op (.mov (.tmp 0)), none⟩,
   ⟨(some 6), .op (.mov (.tmp 1)), none⟩,
   ⟨(some 7), .call 76 [(.tmp 5), (.tmp 6), (.const (.int .i64 0)), (.const (.int .i64 (-1)))], none⟩,
   ⟨(some 4), .op (.mov (.tmp 7)), none⟩])
 (.ret (mk 8 [4]))))⟩
theorem ok54 : FnOK Tryd.prog 54 c54 := ⟨Tryd.f54, _, Tryd.func54, by kernel_rfl, rfl, by kernel_rfl, by kernel_rfl, by kernel_rfl⟩

/-- strings.TrimSuffix. -/
def c55 : AFun := ⟨8, [.tmp 4], false, (.seq (.reg [⟨(some 4), .op (.mov (.const (.str []))), none⟩])
 (.seq (.reg [⟨(some 5), .op (.mov (.tmp 0)), none⟩,
   ⟨(some 6), .op (.mov (.tmp 1)), none⟩,
   ⟨(some 7), .call 77 [(.tmp 5), (.tmp 6)], none⟩,
   ⟨(some 4), .op (.mov (.tmp 7)), none⟩])
 (.ret (mk 8 [4]))))⟩
theorem ok55 : FnOK Tryd.prog 55 c55 := ⟨Tryd.f55, _, Tryd.func55, by kernel_rfl, rfl, by kernel_rfl, by kernel_rfl, by kernel_rfl⟩

/-- strings.TrimPrefix. -/
def c56 : AFun := ⟨8, [.tmp 4], false, (.seq (.reg [⟨(some 4), .op (.mov (.const (.str []))), none⟩])
 (.seq (.reg [⟨(some 5), .op (.mov (.tmp 0)), none⟩,
   ⟨(some 6), .op (.mov (.tmp 1)), none⟩,
   ⟨(some 7), .call 78 [(.tmp 5), (.tmp 6)], none⟩,
   ⟨(some 4), .op (.mov (.tmp 7)), none⟩])
 (.ret (mk 8 [4]))))⟩
theorem ok56 : FnOK Tryd.prog 56 c56 := ⟨Tryd.f56, _, Tryd.func56, by kernel_rfl, rfl, by kernel_rfl, by kernel_rfl, by kernel_rfl⟩

/-- slices.Index[sizar/label.Names,string]. -/
def c57_m0 : List Bool := (mk 19 [0, 1, 7, 8])
abbrev c57_f0 (v0 v1 v7 v8 : AV) : List AV := FM 19 [(0, v0), (1, v1), (7, v7), (8, v8)]
def c57_b0 : ACode := (.seq (.reg [⟨(some 9), .op (.bin .lss (.tmp 8) (.tmp 7)), none⟩])
 (.seq (.cond (.tmp 9) .skip
 (.exit 0 (mk 19 [])))
 (.seq (.block 1 (.seq (.reg [⟨(some 10), .op (.mov (.tmp 8)), none⟩,
    ⟨(some 5), .op (.mov (.tmp 10)), none⟩])
  (.seq (.reg [⟨(some 11), .op (.mov (.tmp 1)), none⟩,
    ⟨(some 12), .op (.mov (.tmp 0)), none⟩,
    ⟨(some 13), .op (.mov (.tmp 5)), none⟩,
    ⟨(some 14), .op (.iad 1 (.tmp 12) (.tmp 13)), none⟩,
    ⟨(some 15), .op (.ld none (.tmp 14)), none⟩,
    ⟨(some 16), .op (.bin .eql (.tmp 11) (.tmp 15)), none⟩])
  (.cond (.tmp 16) (.seq (.reg [⟨(some 17), .op (.mov (.tmp 5)), none⟩,
     ⟨(some 4), .op (.mov (.tmp 17)), none⟩])
   (.ret (mk 19 [4])))
  .skip))))
 (.reg [⟨(some 18), .op (.bin .add (.tmp 8) (.const (.int .i64 1))), none⟩,
   ⟨(some 8), .op (.mov (.tmp 18)), none⟩]))))
def c57 : AFun := ⟨19, [.tmp 4], false, (.seq (.reg [⟨(some 4), .op (.mov (.const (.int .i64 0))), none⟩])
 (.seq (.seq (.reg [⟨(some 6), .op (.mov (.tmp 0)), none⟩,
   ⟨(some 7), .op (.lenv (.tmp 6)), none⟩,
   ⟨(some 8), .op (.mov (.const (.int .i64 0))), none⟩])
 (.block 0 (.loop c57_m0 c57_b0)))
 (.seq (.reg [⟨(some 4), .op (.mov (.const (.int .i64 (-1)))), none⟩])
 (.ret (mk 19 [4])))))⟩
theorem ok57 : FnOK Tryd.prog 57 c57 := ⟨Tryd.f57, _, Tryd.func57, by kernel_rfl, rfl, by kernel_rfl, by kernel_rfl, by kernel_rfl⟩

/-- sizar/sizarref1.small. -/
def c58 : AFun := ⟨9, [.tmp 2], false, (.seq (.reg [⟨(some 2), .op (.mov (.const (.bool false))), none⟩])
 (.seq (.reg [⟨(some 3), .op (.mov (.tmp 0)), none⟩,
   ⟨(some 4), .op (.bin .geq (.tmp 3) (.const (.int .u8 97))), none⟩,
   ⟨(some 5), .op (.mov (.tmp 4)), none⟩,
   ⟨(some 6), .op (.mov (.tmp 0)), (some (5, true))⟩,
   ⟨(some 7), .op (.bin .leq (.tmp 6) (.const (.int .u8 122))), (some (5, true))⟩,
   ⟨(some 8), .op (.pick (.tmp 5) (.tmp 7) (.const (.bool false))), none⟩,
   ⟨(some 2), .op (.mov (.tmp 8)), none⟩])
 (.ret (mk 9 [2]))))⟩
theorem ok58 : FnOK Tryd.prog 58 c58 := ⟨Tryd.f58, _, Tryd.func58, by kernel_rfl, rfl, by kernel_rfl, by kernel_rfl, by kernel_rfl⟩

/-- sizar/sizarref1.digit. -/
def c59 : AFun := ⟨9, [.tmp 2], false, (.seq (.reg [⟨(some 2), .op (.mov (.const (.bool false))), none⟩])
 (.seq (.reg [⟨(some 3), .op (.mov (.tmp 0)), none⟩,
   ⟨(some 4), .op (.bin .geq (.tmp 3) (.const (.int .u8 48))), none⟩,
   ⟨(some 5), .op (.mov (.tmp 4)), none⟩,
   ⟨(some 6), .op (.mov (.tmp 0)), (some (5, true))⟩,
   ⟨(some 7), .op (.bin .leq (.tmp 6) (.const (.int .u8 57))), (some (5, true))⟩,
   ⟨(some 8), .op (.pick (.tmp 5) (.tmp 7) (.const (.bool false))), none⟩,
   ⟨(some 2), .op (.mov (.tmp 8)), none⟩])
 (.ret (mk 9 [2]))))⟩
theorem ok59 : FnOK Tryd.prog 59 c59 := ⟨Tryd.f59, _, Tryd.func59, by kernel_rfl, rfl, by kernel_rfl, by kernel_rfl, by kernel_rfl⟩

/-- sizar/label.goodName. -/
def c60 : AFun := ⟨23, [.tmp 2], false, (.seq (.reg [⟨(some 2), .op (.mov (.const (.bool false))), none⟩])
 (.seq (.seq (.reg [⟨(some 3), .op (.mov (.tmp 0)), none⟩,
   ⟨(some 4), .op (.bin .eql (.tmp 3) (.const (.str []))), none⟩,
   ⟨(some 5), .op (.mov (.tmp 4)), none⟩,
   ⟨(some 6), .op (.mov (.tmp 0)), (some (5, false))⟩,
   ⟨(some 7), .op (.lens (.tmp 6)), (some (5, false))⟩,
   ⟨(some 8), .op (.bin .gtr (.tmp 7) (.const (.int .i64 16))), (some (5, false))⟩,
   ⟨(some 9), .op (.pick (.tmp 5) (.const (.bool true)) (.tmp 8)), none⟩,
   ⟨(some 10), .op (.mov (.tmp 9)), none⟩,
   ⟨(some 11), .op (.mov (.tmp 0)), (some (10, false))⟩,
   ⟨(some 12), .op (.ixs (.tmp 11) (.const (.int .i64 0))), (some (10, false))⟩,
   ⟨(some 13), .op (.bin .lss (.tmp 12) (.const (.int .u8 97))), (some (10, false))⟩,
   ⟨(some 14), .op (.pick (.tmp 10) (.const (.bool true)) (.tmp 13)), none⟩,
   ⟨(some 15), .op (.mov (.tmp 14)), none⟩,
   ⟨(some 16), .op (.mov (.tmp 0)), (some (15, false))⟩,
   ⟨(some 17), .op (.ixs (.tmp 16) (.const (.int .i64 0))), (some (15, false))⟩,
   ⟨(some 18), .op (.bin .gtr (.tmp 17) (.const (.int .u8 122))), (some (15, false))⟩,
   ⟨(some 19), .op (.pick (.tmp 15) (.const (.bool true)) (.tmp 18)), none⟩])
 (.cond (.tmp 19) (.seq (.reg [⟨(some 2), .op (.mov (.const (.bool false))), none⟩])
  (.ret (mk 23 [2])))
 .skip))
 (.seq (.reg [⟨(some 20), .op (.mov (.tmp 0)), none⟩,
   ⟨(some 21), .call 79 [(.tmp 20), (.const (.str [97, 98, 99, 100, 101, 102, 103, 104, 105, 106, 107, 108, 109, 110, 111, 112, 113, 114, 115, 116, 117, 118, 119, 120, 121, 122, 48, 49, 50, 51, 52, 53, 54, 55, 56, 57, 95]))], none⟩,
   ⟨(some 22), .op (.bin .eql (.tmp 21) (.const (.str []))), none⟩,
   ⟨(some 2), .op (.mov (.tmp 22)), none⟩])
 (.ret (mk 23 [2])))))⟩
theorem ok60 : FnOK Tryd.prog 60 c60 := ⟨Tryd.f60, _, Tryd.func60, by kernel_rfl, rfl, by kernel_rfl, by kernel_rfl, by kernel_rfl⟩

/-- slices.Contains[sizar/label.Names,string]. -/
def c61 : AFun := ⟨9, [.tmp 4], false, (.seq (.reg [⟨(some 4), .op (.mov (.const (.bool false))), none⟩])
 (.seq (.reg [⟨(some 5), .op (.mov (.tmp 0)), none⟩,
   ⟨(some 6), .op (.mov (.tmp 1)), none⟩,
   ⟨(some 7), .call 57 [(.tmp 5), (.tmp 6)], none⟩,
   ⟨(some 8), .op (.bin .geq (.tmp 7) (.const (.int .i64 0))), none⟩,
   ⟨(some 4), .op (.mov (.tmp 8)), none⟩])
 (.ret (mk 9 [4]))))⟩
theorem ok61 : FnOK Tryd.prog 61 c61 := ⟨Tryd.f61, _, Tryd.func61, by kernel_rfl, rfl, by kernel_rfl, by kernel_rfl, by kernel_rfl⟩

/-- sizar/sizarref1.Has. -/
def c62_m0 : List Bool := (mk 14 [0, 1])
abbrev c62_f0 (v0 v1 : AV) : List AV := FM 14 [(0, v0), (1, v1)]
def c62_b0 : ACode := (.seq (.seq (.reg [⟨(some 5), .op (.mov (.tmp 1)), none⟩,
   ⟨(some 6), .op (.bin .gtr (.tmp 5) (.const (.int .i64 0))), none⟩])
 (.cond (.tmp 6) .skip
 (.exit 0 (mk 14 [0]))))
 (.seq (.block 1 (.reg [⟨(some 9), .op (.mov (.tmp 0)), none⟩,
    ⟨(some 10), .op (.bin .quo (.tmp 9) (.const (.int .u64 2))), none⟩,
    ⟨(some 0), .op (.mov (.tmp 10)), none⟩]))
 (.reg [⟨(some 7), .op (.mov (.tmp 1)), none⟩,
   ⟨(some 8), .op (.bin .sub (.tmp 7) (.const (.int .i64 1))), none⟩,
   ⟨(some 1), .op (.mov (.tmp 8)), none⟩])))
def c62 : AFun := ⟨14, [.tmp 4], false, (.seq (.reg [⟨(some 4), .op (.mov (.const (.bool false))), none⟩])
 (.seq (.block 0 (.loop c62_m0 c62_b0))
 (.seq (.reg [⟨(some 11), .op (.mov (.tmp 0)), none⟩,
   ⟨(some 12), .op (.bin .rem (.tmp 11) (.const (.int .u64 2))), none⟩,
   ⟨(some 13), .op (.bin .eql (.tmp 12) (.const (.int .u64 1))), none⟩,
   ⟨(some 4), .op (.mov (.tmp 13)), none⟩])
 (.ret (mk 14 [4])))))⟩
theorem ok62 : FnOK Tryd.prog 62 c62 := ⟨Tryd.f62, _, Tryd.func62, by kernel_rfl, rfl, by kernel_rfl, by kernel_rfl, by kernel_rfl⟩

/-- strings.Join. -/
def c63_m0 : List Bool := (mk 75 [0, 1, 5, 39, 40, 41])
abbrev c63_f0 (v0 v1 v5 v39 v40 v41 : AV) : List AV := FM 75 [(0, v0), (1, v1), (5, v5), (39, v39), (40, v40), (41, v41)]
def c63_b0 : ACode := (.seq (.reg [⟨(some 42), .op (.bin .lss (.tmp 41) (.tmp 40)), none⟩])
 (.seq (.cond (.tmp 42) .skip
 (.exit 1 (mk 75 [0, 1, 5])))
 (.seq (.block 2 (.seq (.reg [⟨(some 43), .op (.iad 1 (.tmp 39) (.tmp 41)), none⟩,
    ⟨(some 44), .op (.ld none (.tmp 43)), none⟩,
    ⟨(some 7), .op (.mov (.tmp 44)), none⟩])
  (.seq (.seq (.reg [⟨(some 45), .op (.mov (.tmp 7)), none⟩,
    ⟨(some 46), .op (.lens (.tmp 45)), none⟩,
    ⟨(some 47), .op (.mov (.tmp 5)), none⟩,
    ⟨(some 48), .op (.bin .sub (.const (.int .i64 9223372036854775807)) (.tmp 47)), none⟩,
    ⟨(some 49), .op (.bin .gtr (.tmp 46) (.tmp 48)), none⟩])
  (.cond (.tmp 49) (.reg [⟨(some 50), .op (.mki 9 (.const (.str [115, 116, 114, 105, 110, 103, 115, 58, 32, 74, 111, 105, 110, 32, 111, 117, 116, 112, 117, 116, 32, 108, 101, 110, 103, 116, 104, 32, 111, 118, 101, 114, 102, 108, 111, 119]))), none⟩,
     ⟨none, .op (.die), none⟩])
  .skip))
  (.reg [⟨(some 51), .op (.mov (.tmp 5)), none⟩,
    ⟨(some 52), .op (.mov (.tmp 7)), none⟩,
    ⟨(some 53), .op (.lens (.tmp 52)), none⟩,
    ⟨(some 54), .op (.bin .add (.tmp 51) (.tmp 53)), none⟩,
    ⟨(some 5), .op (.mov (.tmp 54)), none⟩]))))
 (.reg [⟨(some 55), .op (.bin .add (.tmp 41) (.const (.int .i64 1))), none⟩,
   ⟨(some 41), .op (.mov (.tmp 55)), none⟩]))))
def c63_m1 : List Bool := (mk 75 [1, 8, 63, 64, 65])
abbrev c63_f1 (v1 v8 v63 v64 v65 : AV) : List AV := FM 75 [(1, v1), (8, v8), (63, v63), (64, v64), (65, v65)]
def c63_b1 : ACode := (.seq (.reg [⟨(some 66), .op (.bin .lss (.tmp 65) (.tmp 64)), none⟩])
 (.seq (.cond (.tmp 66) .skip
 (.exit 3 (mk 75 [8])))
 (.seq (.block 4 (.seq (.reg [⟨(some 67), .op (.iad 1 (.tmp 63) (.tmp 65)), none⟩,
    ⟨(some 68), .op (.ld none (.tmp 67)), none⟩,
    ⟨(some 10), .op (.mov (.tmp 68)), none⟩])
  (.seq (.reg [⟨(some 69), .op (.mov (.tmp 1)), none⟩,
    ⟨(some 70), .call 81 [(.tmp 8), (.tmp 69)], none⟩])
  (.reg [⟨(some 71), .op (.mov (.tmp 10)), none⟩,
    ⟨(some 72), .call 81 [(.tmp 8), (.tmp 71)], none⟩]))))
 (.reg [⟨(some 73), .op (.bin .add (.tmp 65) (.const (.int .i64 1))), none⟩,
   ⟨(some 65), .op (.mov (.tmp 73)), none⟩]))))
def c63 : AFun := ⟨75, [.tmp 4], false, (.seq (.reg [⟨(some 4), .op (.mov (.const (.str []))), none⟩])
 (.seq (.seq (.reg [⟨(some 11), .op (.mov (.tmp 0)), none⟩,
   ⟨(some 12), .op (.lenv (.tmp 11)), none⟩])
 (.block 0 (.seq (.reg [⟨(some 14), .op (.bin .eql (.tmp 12) (.const (.int .i64 0))), none⟩,
    ⟨(some 13), .op (.mov (.tmp 14)), none⟩])
  (.cond (.tmp 13) (.seq (.reg [⟨(some 4), .op (.mov (.const (.str []))), none⟩])
   (.ret (mk 75 [4])))
  (.seq (.reg [⟨(some 16), .op (.bin .eql (.tmp 12) (.const (.int .i64 1))), none⟩,
     ⟨(some 15), .op (.mov (.tmp 16)), none⟩])
   (.cond (.tmp 15) (.seq (.reg [⟨(some 17), .op (.mov (.tmp 0)), none⟩,
      ⟨(some 18), .op (.iad 1 (.tmp 17) (.const (.int .i64 0))), none⟩,
      ⟨(some 19), .op (.ld none (.tmp 18)), none⟩,
      ⟨(some 4), .op (.mov (.tmp 19)), none⟩])
    (.ret (mk 75 [4])))
   .skip))))))
 (.seq (.reg [⟨(some 5), .op (.mov (.const (.int .i64 0))), none⟩])
 (.seq (.seq (.reg [⟨(some 20), .op (.mov (.tmp 1)), none⟩,
   ⟨(some 21), .op (.lens (.tmp 20)), none⟩,
   ⟨(some 22), .op (.bin .gtr (.tmp 21) (.const (.int .i64 0))), none⟩])
 (.cond (.tmp 22) (.seq (.seq (.reg [⟨(some 23), .op (.mov (.tmp 1)), none⟩,
    ⟨(some 24), .op (.lens (.tmp 23)), none⟩,
    ⟨(some 25), .op (.mov (.tmp 0)), none⟩,
    ⟨(some 26), .op (.lenv (.tmp 25)), none⟩,
    ⟨(some 27), .op (.bin .sub (.tmp 26) (.const (.int .i64 1))), none⟩,
    ⟨(some 28), .op (.bin .quo (.const (.int .i64 9223372036854775807)) (.tmp 27)), none⟩,
    ⟨(some 29), .op (.bin .geq (.tmp 24) (.tmp 28)), none⟩])
  (.cond (.tmp 29) (.reg [⟨(some 30), .op (.mki 9 (.const (.str [115, 116, 114, 105, 110, 103, 115, 58, 32, 74, 111, 105, 110, 32, 111, 117, 116, 112, 117, 116, 32, 108, 101, 110, 103, 116, 104, 32, 111, 118, 101, 114, 102, 108, 111, 119]))), none⟩,
     ⟨none, .op (.die), none⟩])
  .skip))
  (.reg [⟨(some 31), .op (.mov (.tmp 5)), none⟩,
    ⟨(some 32), .op (.mov (.tmp 1)), none⟩,
    ⟨(some 33), .op (.lens (.tmp 32)), none⟩,
    ⟨(some 34), .op (.mov (.tmp 0)), none⟩,
    ⟨(some 35), .op (.lenv (.tmp 34)), none⟩,
    ⟨(some 36), .op (.bin .sub (.tmp 35) (.const (.int .i64 1))), none⟩,
    ⟨(some 37), .op (.bin .mul (.tmp 33) (.tmp 36)), none⟩,
    ⟨(some 38), .op (.bin .add (.tmp 31) (.tmp 37)), none⟩,
    ⟨(some 5), .op (.mov (.tmp 38)), none⟩]))
 .skip))
 (.seq (.seq (.reg [⟨(some 39), .op (.mov (.tmp 0)), none⟩,
   ⟨(some 40), .op (.lenv (.tmp 39)), none⟩,
   ⟨(some 41), .op (.mov (.const (.int .i64 0))), none⟩])
 (.block 1 (.loop c63_m0 c63_b0)))
 (.seq (.reg [⟨(some 8), .op (.box (.const (.agg [.nilp, .nils]))), none⟩])
 (.seq (.reg [⟨(some 56), .op (.mov (.tmp 5)), none⟩,
   ⟨(some 57), .call 80 [(.tmp 8), (.tmp 56)], none⟩])
 (.seq (.reg [⟨(some 58), .op (.mov (.tmp 0)), none⟩,
   ⟨(some 59), .op (.iad 1 (.tmp 58) (.const (.int .i64 0))), none⟩,
   ⟨(some 60), .op (.ld none (.tmp 59)), none⟩,
   ⟨(some 61), .call 81 [(.tmp 8), (.tmp 60)], none⟩])
 (.seq (.seq (.reg [⟨(some 62), .op (.mov (.tmp 0)), none⟩,
   ⟨(some 63), .op (.slv 1 (.tmp 62) (some (.const (.int .i64 1))) none none), none⟩,
   ⟨(some 64), .op (.lenv (.tmp 63)), none⟩,
   ⟨(some 65), .op (.mov (.const (.int .i64 0))), none⟩])
 (.block 3 (.loop c63_m1 c63_b1)))
 (.seq (.reg [⟨(some 74), .call 82 [(.tmp 8)], none⟩,
   ⟨(some 4), .op (.mov (.tmp 74)), none⟩])
 (.ret (mk 75 [4]))))))))))))⟩
theorem ok63 : FnOK Tryd.prog 63 c63 := ⟨Tryd.f63, _, Tryd.func63, by kernel_rfl, rfl, by kernel_rfl, by kernel_rfl, by kernel_rfl⟩

/-- (*sizar/sig.Sig).All. -/
def c64 : AFun := ⟨8, [.tmp 2], false, (.seq (.reg [⟨(some 2), .op (.mov (.const .nils)), none⟩])
 (.seq (.reg [⟨(some 3), .op (.mov (.tmp 0)), none⟩,
   ⟨(some 4), .op (.nck (.tmp 3)), none⟩,
   ⟨(some 5), .op (.fad 1 (.tmp 4)), none⟩,
   ⟨(some 6), .op (.ld none (.tmp 5)), none⟩,
   ⟨(some 7), .call 83 [(.tmp 6)], none⟩,
   ⟨(some 2), .op (.mov (.tmp 7)), none⟩])
 (.ret (mk 8 [2]))))⟩
theorem ok64 : FnOK Tryd.prog 64 c64 := ⟨Tryd.f64, _, Tryd.func64, by kernel_rfl, rfl, by kernel_rfl, by kernel_rfl, by kernel_rfl⟩

/-- strings.Contains. -/
def c65 : AFun := ⟨9, [.tmp 4], false, (.seq (.reg [⟨(some 4), .op (.mov (.const (.bool false))), none⟩])
 (.seq (.reg [⟨(some 5), .op (.mov (.tmp 0)), none⟩,
   ⟨(some 6), .op (.mov (.tmp 1)), none⟩,
   ⟨(some 7), .call 84 [(.tmp 5), (.tmp 6)], none⟩,
   ⟨(some 8), .op (.bin .geq (.tmp 7) (.const (.int .i64 0))), none⟩,
   ⟨(some 4), .op (.mov (.tmp 8)), none⟩])
 (.ret (mk 9 [4]))))⟩
theorem ok65 : FnOK Tryd.prog 65 c65 := ⟨Tryd.f65, _, Tryd.func65, by kernel_rfl, rfl, by kernel_rfl, by kernel_rfl, by kernel_rfl⟩

/-- strconv.Itoa. -/
def c66 : AFun := ⟨5, [.tmp 2], false, (.seq (.reg [⟨(some 2), .op (.mov (.const (.str []))), none⟩])
 (.seq (.reg [⟨(some 3), .op (.mov (.tmp 0)), none⟩,
   ⟨(some 4), .call 85 [(.tmp 3)], none⟩,
   ⟨(some 2), .op (.mov (.tmp 4)), none⟩])
 (.ret (mk 5 [2]))))⟩
theorem ok66 : FnOK Tryd.prog 66 c66 := ⟨Tryd.f66, _, Tryd.func66, by kernel_rfl, rfl, by kernel_rfl, by kernel_rfl, by kernel_rfl⟩

/-- sizar/sig.New$1. -/
def c67 : AFun := ⟨8, [.tmp 3], false, (.seq (.reg [⟨(some 2), .op (.box (.tmp 0)), none⟩,
   ⟨(some 3), .op (.mov (.const (.bool false))), none⟩])
 (.seq (.reg [⟨(some 4), .op (.ld (some 4) (.tmp 2)), none⟩,
   ⟨(some 5), .op (.ld none (.tmp 1)), none⟩,
   ⟨(some 6), .call 68 [(.tmp 4), (.tmp 5)], none⟩,
   ⟨(some 7), .op (.un .not (.tmp 6)), none⟩,
   ⟨(some 3), .op (.mov (.tmp 7)), none⟩])
 (.ret (mk 8 [3]))))⟩
theorem ok67 : FnOK Tryd.prog 67 c67 := ⟨Tryd.f67, _, Tryd.func67, by kernel_rfl, rfl, by kernel_rfl, by kernel_rfl, by kernel_rfl⟩

/-- (sizar/sig.Pred).may. -/
def c68 : AFun := ⟨25, [.tmp 4], false, (.seq (.reg [⟨(some 2), .op (.box (.tmp 0)), none⟩,
   ⟨(some 4), .op (.mov (.const (.bool false))), none⟩])
 (.seq (.reg [⟨(some 5), .op (.fad 0 (.tmp 2)), none⟩,
   ⟨(some 6), .op (.ld none (.tmp 5)), none⟩,
   ⟨(some 7), .call 24 [(.tmp 6)], none⟩,
   ⟨(some 8), .call 16 [(.tmp 7)], none⟩,
   ⟨(some 9), .op (.mov (.tmp 8)), none⟩,
   ⟨(some 10), .op (.fad 1 (.tmp 2)), (some (9, true))⟩,
   ⟨(some 11), .op (.ld none (.tmp 10)), (some (9, true))⟩,
   ⟨(some 12), .op (.bin .geq (.tmp 11) (.const (.int .i64 0))), (some (9, true))⟩,
   ⟨(some 13), .op (.pick (.tmp 9) (.tmp 12) (.const (.bool false))), none⟩,
   ⟨(some 14), .op (.mov (.tmp 13)), none⟩,
   ⟨(some 15), .op (.fad 1 (.tmp 2)), (some (14, true))⟩,
   ⟨(some 16), .op (.ld none (.tmp 15)), (some (14, true))⟩,
   ⟨(some 17), .op (.bin .leq (.tmp 16) (.const (.int .i64 8))), (some (14, true))⟩,
   ⟨(some 18), .op (.pick (.tmp 14) (.tmp 17) (.const (.bool false))), none⟩,
   ⟨(some 19), .op (.mov (.tmp 18)), none⟩,
   ⟨(some 20), .op (.mov (.tmp 1)), (some (19, true))⟩,
   ⟨(some 21), .op (.fad 2 (.tmp 2)), (some (19, true))⟩,
   ⟨(some 22), .op (.ld none (.tmp 21)), (some (19, true))⟩,
   ⟨(some 23), .call 33 [(.tmp 20), (.tmp 22)], (some (19, true))⟩,
   ⟨(some 24), .op (.pick (.tmp 19) (.tmp 23) (.const (.bool false))), none⟩,
   ⟨(some 4), .op (.mov (.tmp 24)), none⟩])
 (.ret (mk 25 [4]))))⟩
theorem ok68 : FnOK Tryd.prog 68 c68 := ⟨Tryd.f68, _, Tryd.func68, by kernel_rfl, rfl, by kernel_rfl, by kernel_rfl, by kernel_rfl⟩

/-- sizar/sig.New$2. -/
def c69 : AFun := ⟨8, [.tmp 2], false, (.seq (.reg [⟨(some 1), .op (.box (.tmp 0)), none⟩,
   ⟨(some 2), .op (.mov (.const (.bool false))), none⟩])
 (.seq (.reg [⟨(some 3), .op (.fad 0 (.tmp 1)), none⟩,
   ⟨(some 4), .op (.ld none (.tmp 3)), none⟩,
   ⟨(some 5), .op (.fad 1 (.tmp 1)), none⟩,
   ⟨(some 6), .op (.ld none (.tmp 5)), none⟩,
   ⟨(some 7), .call 42 [(.tmp 4), (.tmp 6)], none⟩,
   ⟨(some 2), .op (.mov (.tmp 7)), none⟩])
 (.ret (mk 8 [2]))))⟩
theorem ok69 : FnOK Tryd.prog 69 c69 := ⟨Tryd.f69, _, Tryd.func69, by kernel_rfl, rfl, by kernel_rfl, by kernel_rfl, by kernel_rfl⟩

/-- slices.ContainsFunc[[]sizar/sig.Pred,sizar/sig.Pred]. -/
def c70 : AFun := ⟨9, [.tmp 4], false, (.seq (.reg [⟨(some 4), .op (.mov (.const (.bool false))), none⟩])
 (.seq (.reg [⟨(some 5), .op (.mov (.tmp 0)), none⟩,
   ⟨(some 6), .op (.mov (.tmp 1)), none⟩,
   ⟨(some 7), .call 86 [(.tmp 5), (.tmp 6)], none⟩,
   ⟨(some 8), .op (.bin .geq (.tmp 7) (.const (.int .i64 0))), none⟩,
   ⟨(some 4), .op (.mov (.tmp 8)), none⟩])
 (.ret (mk 9 [4]))))⟩
theorem ok70 : FnOK Tryd.prog 70 c70 := ⟨Tryd.f70, _, Tryd.func70, by kernel_rfl, rfl, by kernel_rfl, by kernel_rfl, by kernel_rfl⟩

/-- slices.Clone[sizar/label.Names,string]. -/
def c71 : AFun := ⟨8, [.tmp 2], true, (.seq (.reg [⟨(some 2), .op (.mov (.const .nils)), none⟩])
 (.seq (.seq (.reg [⟨(some 3), .op (.mov (.tmp 0)), none⟩,
   ⟨(some 4), .op (.snil false (.tmp 3)), none⟩])
 (.cond (.tmp 4) (.seq (.reg [⟨(some 2), .op (.mov (.const .nils)), none⟩])
  (.ret (mk 8 [2])))
 .skip))
 (.seq (.reg [⟨(some 5), .op (.bs0), none⟩,
   ⟨(some 6), .op (.mov (.tmp 0)), none⟩,
   ⟨(some 7), .op (.app 1 16 (.tmp 5) (.tmp 6)), none⟩,
   ⟨(some 2), .op (.mov (.tmp 7)), none⟩])
 (.ret (mk 8 [2])))))⟩
theorem ok71 : FnOK Tryd.prog 71 c71 := ⟨Tryd.f71, _, Tryd.func71, by kernel_rfl, rfl, by kernel_rfl, by kernel_rfl, by kernel_rfl⟩

theorem clone71 : CloneAt Tryd.prog 71 := ⟨⟨Tryd.f71, _, _, _, _, _, _, _, 9, _, (.reg [⟨(some 2), .op (.mov (.const .nils)), none⟩]),
 (.seq (.reg [⟨(some 2), .op (.mov (.const .nils)), none⟩])
 (.ret (mk 0 []))),
 (.seq (.reg [⟨(some 5), .op (.bs0), none⟩,
   ⟨(some 6), .op (.mov (.tmp 0)), none⟩,
   ⟨(some 7), .op (.app 1 16 (.tmp 5) (.tmp 6)), none⟩,
   ⟨(some 2), .op (.mov (.tmp 7)), none⟩])
 (.ret (mk 0 []))),
 Tryd.func71, by kernel_rfl, rfl, by kernel_rfl, by kernel_rfl, by kernel_rfl, rfl, by kernel_rfl, by kernel_rfl, by kernel_rfl, by kernel_rfl, by kernel_rfl, by kernel_rfl, fun _ _ => rfl, fun _ _ => rfl, fun _ hv _ => by rcases hv with rfl | rfl <;> rfl⟩⟩

/-- sizar/term.Size$1. -/
def c72 : AFun := ⟨8, [.tmp 3], false, (.seq (.reg [⟨(some 2), .op (.box (.tmp 0)), none⟩,
   ⟨(some 3), .op (.mov (.const (.bool false))), none⟩])
 (.seq (.reg [⟨(some 4), .op (.ld none (.tmp 1)), none⟩,
   ⟨(some 5), .op (.bin .add (.tmp 4) (.const (.int .i64 1))), none⟩,
   ⟨none, .op (.st 1 (.tmp 1) (.tmp 5)), none⟩])
 (.seq (.reg [⟨(some 6), .op (.ld none (.tmp 1)), none⟩,
   ⟨(some 7), .op (.bin .leq (.tmp 6) (.const (.int .i64 2000))), none⟩,
   ⟨(some 3), .op (.mov (.tmp 7)), none⟩])
 (.ret (mk 8 [3])))))⟩
theorem ok72 : FnOK Tryd.prog 72 c72 := ⟨Tryd.f72, _, Tryd.func72, by kernel_rfl, rfl, by kernel_rfl, by kernel_rfl, by kernel_rfl⟩

/-- sizar/term.depth. -/
def c73_m0 : List Bool := (mk 30 [1, 5, 9, 10, 11])
abbrev c73_f0 (v1 v5 v9 v10 v11 : AV) : List AV := FM 30 [(1, v1), (5, v5), (9, v9), (10, v10), (11, v11)]
def c73_b0 : ACode := (.seq (.reg [⟨(some 12), .op (.bin .lss (.tmp 11) (.tmp 10)), none⟩])
 (.seq (.cond (.tmp 12) .skip
 (.exit 0 (mk 30 [1, 5])))
 (.seq (.block 1 (.seq (.reg [⟨(some 13), .op (.iad 4 (.tmp 9) (.tmp 11)), none⟩,
    ⟨(some 14), .op (.ld (some 4) (.tmp 13)), none⟩,
    ⟨(some 7), .op (.box (.const (.agg [(.int .i64 0), (.int .i64 0), (.str []), .nils]))), none⟩,
    ⟨none, .op (.st 4 (.tmp 7) (.tmp 14)), none⟩])
  (.seq (.seq (.reg [⟨(some 15), .op (.mov (.tmp 5)), none⟩,
    ⟨(some 16), .op (.mov (.tmp 1)), none⟩,
    ⟨(some 17), .op (.bin .sub (.tmp 16) (.const (.int .i64 1))), none⟩,
    ⟨(some 18), .op (.bin .geq (.tmp 15) (.tmp 17)), none⟩])
  (.cond (.tmp 18) (.exit 0 (mk 30 [1, 5]))
  .skip))
  (.reg [⟨(some 19), .op (.mov (.tmp 5)), none⟩,
    ⟨(some 20), .op (.ld (some 4) (.tmp 7)), none⟩,
    ⟨(some 21), .op (.mov (.tmp 1)), none⟩,
    ⟨(some 22), .op (.bin .sub (.tmp 21) (.const (.int .i64 1))), none⟩,
    ⟨(some 23), .call 73 [(.tmp 20), (.tmp 22)], none⟩,
    ⟨(some 24), .op (.mx (.tmp 19) (.tmp 23)), none⟩,
    ⟨(some 5), .op (.mov (.tmp 24)), none⟩]))))
 (.reg [⟨(some 25), .op (.bin .add (.tmp 11) (.const (.int .i64 1))), none⟩,
   ⟨(some 11), .op (.mov (.tmp 25)), none⟩]))))
def c73 : AFun := ⟨30, [.tmp 4], false, (.seq (.reg [⟨(some 2), .op (.box (.tmp 0)), none⟩,
   ⟨(some 4), .op (.mov (.const (.int .i64 0))), none⟩])
 (.seq (.reg [⟨(some 5), .op (.mov (.const (.int .i64 0))), none⟩])
 (.seq (.seq (.reg [⟨(some 8), .op (.fad 3 (.tmp 2)), none⟩,
   ⟨(some 9), .op (.ld none (.tmp 8)), none⟩,
   ⟨(some 10), .op (.lenv (.tmp 9)), none⟩,
   ⟨(some 11), .op (.mov (.const (.int .i64 0))), none⟩])
 (.block 0 (.loop c73_m0 c73_b0)))
 (.seq (.reg [⟨(some 26), .op (.mov (.tmp 5)), none⟩,
   ⟨(some 27), .op (.bin .add (.tmp 26) (.const (.int .i64 1))), none⟩,
   ⟨(some 28), .op (.mov (.tmp 1)), none⟩,
   ⟨(some 29), .op (.mn (.tmp 27) (.tmp 28)), none⟩,
   ⟨(some 4), .op (.mov (.tmp 29)), none⟩])
 (.ret (mk 30 [4]))))))⟩
theorem ok73 : FnOK Tryd.prog 73 c73 := ⟨Tryd.f73, _, Tryd.func73, by kernel_rfl, rfl, by kernel_rfl, by kernel_rfl, by kernel_rfl⟩

/-- sizar/term.goodName. -/
def c74_m0 : List Bool := (mk 30 [0, 6, 7, 8])
abbrev c74_f0 (v0 v6 v7 v8 : AV) : List AV := FM 30 [(0, v0), (6, v6), (7, v7), (8, v8)]
def c74_b0 : ACode := (.seq (.reg [⟨(some 9), .op (.bin .lss (.tmp 8) (.tmp 7)), none⟩])
 (.seq (.cond (.tmp 9) .skip
 (.exit 0 (mk 30 [0])))
 (.seq (.block 1 (.seq (.reg [⟨(some 10), .op (.iad 1 (.tmp 6) (.tmp 8)), none⟩,
    ⟨(some 11), .op (.ld none (.tmp 10)), none⟩,
    ⟨(some 4), .op (.mov (.tmp 11)), none⟩])
  (.seq (.reg [⟨(some 12), .op (.mov (.tmp 4)), none⟩,
    ⟨(some 13), .op (.bin .lss (.tmp 12) (.const (.int .u8 32))), none⟩,
    ⟨(some 14), .op (.mov (.tmp 13)), none⟩,
    ⟨(some 15), .op (.mov (.tmp 4)), (some (14, false))⟩,
    ⟨(some 16), .op (.bin .gtr (.tmp 15) (.const (.int .u8 126))), (some (14, false))⟩,
    ⟨(some 17), .op (.pick (.tmp 14) (.const (.bool true)) (.tmp 16)), none⟩,
    ⟨(some 18), .op (.mov (.tmp 17)), none⟩,
    ⟨(some 19), .op (.mov (.tmp 4)), (some (18, true))⟩,
    ⟨(some 20), .op (.bin .neq (.tmp 19) (.const (.int .u8 9))), (some (18, true))⟩,
    ⟨(some 21), .op (.pick (.tmp 18) (.tmp 20) (.const (.bool false))), none⟩,
    ⟨(some 22), .op (.mov (.tmp 21)), none⟩,
    ⟨(some 23), .op (.mov (.tmp 4)), (some (22, true))⟩,
    ⟨(some 24), .op (.bin .neq (.tmp 23) (.const (.int .u8 10))), (some (22, true))⟩,
    ⟨(some 25), .op (.pick (.tmp 22) (.tmp 24) (.const (.bool false))), none⟩])
  (.cond (.tmp 25) (.seq (.reg [⟨(some 2), .op (.mov (.const (.bool false))), none⟩])
   (.ret (mk 30 [2])))
  .skip))))
 (.reg [⟨(some 26), .op (.bin .add (.tmp 8) (.const (.int .i64 1))), none⟩,
   ⟨(some 8), .op (.mov (.tmp 26)), none⟩]))))
def c74 : AFun := ⟨30, [.tmp 2], false, (.seq (.reg [⟨(some 2), .op (.mov (.const (.bool false))), none⟩])
 (.seq (.seq (.reg [⟨(some 5), .op (.mov (.tmp 0)), none⟩,
   ⟨(some 6), .op (.cvsb (.tmp 5)), none⟩,
   ⟨(some 7), .op (.lenv (.tmp 6)), none⟩,
   ⟨(some 8), .op (.mov (.const (.int .i64 0))), none⟩])
 (.block 0 (.loop c74_m0 c74_b0)))
 (.seq (.reg [⟨(some 27), .op (.mov (.tmp 0)), none⟩,
   ⟨(some 28), .op (.lens (.tmp 27)), none⟩,
   ⟨(some 29), .op (.bin .leq (.tmp 28) (.const (.int .i64 64))), none⟩,
   ⟨(some 2), .op (.mov (.tmp 29)), none⟩])
 (.ret (mk 30 [2])))))⟩
theorem ok74 : FnOK Tryd.prog 74 c74 := ⟨Tryd.f74, _, Tryd.func74, by kernel_rfl, rfl, by kernel_rfl, by kernel_rfl, by kernel_rfl⟩

/-- slices.EqualFunc[[]sizar/term.Term,[]sizar/term.Term,sizar/term.Term,sizar/term.Term]. -/
def c75_m0 : List Bool := (mk 32 [1, 2, 15, 16, 17])
abbrev c75_f0 (v1 v2 v15 v16 v17 : AV) : List AV := FM 32 [(1, v1), (2, v2), (15, v15), (16, v16), (17, v17)]
def c75_b0 : ACode := (.seq (.reg [⟨(some 18), .op (.bin .lss (.tmp 17) (.tmp 16)), none⟩])
 (.seq (.cond (.tmp 18) .skip
 (.exit 0 (mk 32 [])))
 (.seq (.block 1 (.seq (.reg [⟨(some 19), .op (.mov (.tmp 17)), none⟩,
    ⟨(some 20), .op (.iad 4 (.tmp 15) (.tmp 17)), none⟩,
    ⟨(some 21), .op (.ld (some 4) (.tmp 20)), none⟩,
    ⟨(some 8), .op (.box (.const (.agg [(.int .i64 0), (.int .i64 0), (.str []), .nils]))), none⟩,
    ⟨(some 7), .op (.mov (.tmp 19)), none⟩,
    ⟨none, .op (.st 4 (.tmp 8) (.tmp 21)), none⟩])
  (.seq (.reg [⟨(some 22), .op (.mov (.tmp 1)), none⟩,
    ⟨(some 23), .op (.mov (.tmp 7)), none⟩,
    ⟨(some 24), .op (.iad 4 (.tmp 22) (.tmp 23)), none⟩,
    ⟨(some 25), .op (.ld (some 4) (.tmp 24)), none⟩,
    ⟨(some 9), .op (.box (.const (.agg [(.int .i64 0), (.int .i64 0), (.str []), .nils]))), none⟩,
    ⟨none, .op (.st 4 (.tmp 9) (.tmp 25)), none⟩])
  (.seq (.reg [⟨(some 26), .op (.mov (.tmp 2)), none⟩,
    ⟨(some 27), .op (.ld (some 4) (.tmp 8)), none⟩,
    ⟨(some 28), .op (.ld (some 4) (.tmp 9)), none⟩,
    ⟨(some 29), .callv (.tmp 26) [(.tmp 27), (.tmp 28)], none⟩,
    ⟨(some 30), .op (.un .not (.tmp 29)), none⟩])
  (.cond (.tmp 30) (.seq (.reg [⟨(some 6), .op (.mov (.const (.bool false))), none⟩])
   (.ret (mk 32 [6])))
  .skip)))))
 (.reg [⟨(some 31), .op (.bin .add (.tmp 17) (.const (.int .i64 1))), none⟩,
   ⟨(some 17), .op (.mov (.tmp 31)), none⟩]))))
def c75 : AFun := ⟨32, [.tmp 6], false, (.seq (.reg [⟨(some 6), .op (.mov (.const (.bool false))), none⟩])
 (.seq (.seq (.reg [⟨(some 10), .op (.mov (.tmp 0)), none⟩,
   ⟨(some 11), .op (.lenv (.tmp 10)), none⟩,
   ⟨(some 12), .op (.mov (.tmp 1)), none⟩,
   ⟨(some 13), .op (.lenv (.tmp 12)), none⟩,
   ⟨(some 14), .op (.bin .neq (.tmp 11) (.tmp 13)), none⟩])
 (.cond (.tmp 14) (.seq (.reg [⟨(some 6), .op (.mov (.const (.bool false))), none⟩])
  (.ret (mk 32 [6])))
 .skip))
 (.seq (.seq (.reg [⟨(some 15), .op (.mov (.tmp 0)), none⟩,
   ⟨(some 16), .op (.lenv (.tmp 15)), none⟩,
   ⟨(some 17), .op (.mov (.const (.int .i64 0))), none⟩])
 (.block 0 (.loop c75_m0 c75_b0)))
 (.seq (.reg [⟨(some 6), .op (.mov (.const (.bool true))), none⟩])
 (.ret (mk 32 [6]))))))⟩
theorem ok75 : FnOK Tryd.prog 75 c75 := ⟨Tryd.f75, _, Tryd.func75, by kernel_rfl, rfl, by kernel_rfl, by kernel_rfl, by kernel_rfl⟩

/-- slices.Clone[[]sizar/sig.Pred,sizar/sig.Pred]. -/
def c83 : AFun := ⟨8, [.tmp 2], true, (.seq (.reg [⟨(some 2), .op (.mov (.const .nils)), none⟩])
 (.seq (.seq (.reg [⟨(some 3), .op (.mov (.tmp 0)), none⟩,
   ⟨(some 4), .op (.snil false (.tmp 3)), none⟩])
 (.cond (.tmp 4) (.seq (.reg [⟨(some 2), .op (.mov (.const .nils)), none⟩])
  (.ret (mk 8 [2])))
 .skip))
 (.seq (.reg [⟨(some 5), .op (.bs0), none⟩,
   ⟨(some 6), .op (.mov (.tmp 0)), none⟩,
   ⟨(some 7), .op (.app 4 40 (.tmp 5) (.tmp 6)), none⟩,
   ⟨(some 2), .op (.mov (.tmp 7)), none⟩])
 (.ret (mk 8 [2])))))⟩
theorem ok83 : FnOK Tryd.prog 83 c83 := ⟨Tryd.f83, _, Tryd.func83, by kernel_rfl, rfl, by kernel_rfl, by kernel_rfl, by kernel_rfl⟩

theorem clone83 : CloneAt Tryd.prog 83 := ⟨⟨Tryd.f83, _, _, _, _, _, _, _, 78, _, (.reg [⟨(some 2), .op (.mov (.const .nils)), none⟩]),
 (.seq (.reg [⟨(some 2), .op (.mov (.const .nils)), none⟩])
 (.ret (mk 0 []))),
 (.seq (.reg [⟨(some 5), .op (.bs0), none⟩,
   ⟨(some 6), .op (.mov (.tmp 0)), none⟩,
   ⟨(some 7), .op (.app 4 40 (.tmp 5) (.tmp 6)), none⟩,
   ⟨(some 2), .op (.mov (.tmp 7)), none⟩])
 (.ret (mk 0 []))),
 Tryd.func83, by kernel_rfl, rfl, by kernel_rfl, by kernel_rfl, by kernel_rfl, rfl, by kernel_rfl, by kernel_rfl, by kernel_rfl, by kernel_rfl, by kernel_rfl, by kernel_rfl, fun _ _ => rfl, fun _ _ => rfl, fun _ hv _ => by rcases hv with rfl | rfl <;> rfl⟩⟩

/-- slices.IndexFunc[[]sizar/sig.Pred,sizar/sig.Pred]. -/
def c86_m0 : List Bool := (mk 19 [0, 1, 7, 8])
abbrev c86_f0 (v0 v1 v7 v8 : AV) : List AV := FM 19 [(0, v0), (1, v1), (7, v7), (8, v8)]
def c86_b0 : ACode := (.seq (.reg [⟨(some 9), .op (.bin .lss (.tmp 8) (.tmp 7)), none⟩])
 (.seq (.cond (.tmp 9) .skip
 (.exit 0 (mk 19 [])))
 (.seq (.block 1 (.seq (.reg [⟨(some 10), .op (.mov (.tmp 8)), none⟩,
    ⟨(some 5), .op (.mov (.tmp 10)), none⟩])
  (.seq (.reg [⟨(some 11), .op (.mov (.tmp 1)), none⟩,
    ⟨(some 12), .op (.mov (.tmp 0)), none⟩,
    ⟨(some 13), .op (.mov (.tmp 5)), none⟩,
    ⟨(some 14), .op (.iad 4 (.tmp 12) (.tmp 13)), none⟩,
    ⟨(some 15), .op (.ld (some 4) (.tmp 14)), none⟩,
    ⟨(some 16), .callv (.tmp 11) [(.tmp 15)], none⟩])
  (.cond (.tmp 16) (.seq (.reg [⟨(some 17), .op (.mov (.tmp 5)), none⟩,
     ⟨(some 4), .op (.mov (.tmp 17)), none⟩])
   (.ret (mk 19 [4])))
  .skip))))
 (.reg [⟨(some 18), .op (.bin .add (.tmp 8) (.const (.int .i64 1))), none⟩,
   ⟨(some 8), .op (.mov (.tmp 18)), none⟩]))))
def c86 : AFun := ⟨19, [.tmp 4], false, (.seq (.reg [⟨(some 4), .op (.mov (.const (.int .i64 0))), none⟩])
 (.seq (.seq (.reg [⟨(some 6), .op (.mov (.tmp 0)), none⟩,
   ⟨(some 7), .op (.lenv (.tmp 6)), none⟩,
   ⟨(some 8), .op (.mov (.const (.int .i64 0))), none⟩])
 (.block 0 (.loop c86_m0 c86_b0)))
 (.seq (.reg [⟨(some 4), .op (.mov (.const (.int .i64 (-1)))), none⟩])
 (.ret (mk 19 [4])))))⟩
theorem ok86 : FnOK Tryd.prog 86 c86 := ⟨Tryd.f86, _, Tryd.func86, by kernel_rfl, rfl, by kernel_rfl, by kernel_rfl, by kernel_rfl⟩


end Go.Proofs.YtnkafagfkblfeaaDoor
