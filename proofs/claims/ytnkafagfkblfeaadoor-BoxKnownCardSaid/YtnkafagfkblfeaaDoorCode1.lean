import Derived.Test.YtnkafagfkblfeaaDoorProg
import Derived.KernelRfl
import Derived.Test.YtnkafagfkblfeaaDoorSz2
import Derived.Test.YtnkafagfkblfeaaDoorSz3
set_option linter.unusedVariables false
set_option linter.unusedSimpArgs false
set_option linter.unusedSectionVars false

namespace Go.Proofs.YtnkafagfkblfeaaDoor
open Go Sz
set_option maxRecDepth 100000

/-- gosem.cut.init. -/
def c2 : AFun := ⟨1, [], false, (.reg [⟨(some 0), .call 1 [], none⟩])⟩
theorem ok2 : FnOK Tryd.prog 2 c2 := ⟨Tryd.f2, _, Tryd.func2, by kernel_rfl, rfl, by kernel_rfl, by kernel_rfl, by kernel_rfl⟩

/-- sizar/sizarlaw24.BoxNumbers. -/
def c3_m0 : List Bool := (mk 124 [0, 1, 2, 3, 9, 11, 13])
abbrev c3_f0 (v0 v1 v2 v3 v9 v11 v13 : AV) : List AV := FM 124 [(0, v0), (1, v1), (2, v2), (3, v3), (9, v9), (11, v11), (13, v13)]
def c3_b0 : ACode := (.seq (.seq (.reg [⟨(some 54), .op (.mov (.tmp 13)), none⟩,
   ⟨(some 55), .op (.mov (.tmp 0)), none⟩,
   ⟨(some 56), .op (.lenv (.tmp 55)), none⟩,
   ⟨(some 57), .op (.bin .lss (.tmp 54) (.tmp 56)), none⟩])
 (.cond (.tmp 57) .skip
 (.exit 0 (mk 124 [9, 11]))))
 (.seq (.block 1 (.seq (.seq (.reg [⟨(some 60), .op (.mov (.tmp 1)), none⟩,
    ⟨(some 61), .op (.mov (.tmp 13)), none⟩,
    ⟨(some 62), .op (.iad 4 (.tmp 60) (.tmp 61)), none⟩,
    ⟨(some 63), .op (.ld (some 4) (.tmp 62)), none⟩,
    ⟨(some 64), .call 16 [(.tmp 63)], none⟩,
    ⟨(some 65), .op (.un .not (.tmp 64)), none⟩,
    ⟨(some 66), .op (.mov (.tmp 65)), none⟩,
    ⟨(some 67), .op (.mov (.tmp 3)), (some (66, false))⟩,
    ⟨(some 68), .op (.mov (.tmp 13)), (some (66, false))⟩,
    ⟨(some 69), .op (.iad 4 (.tmp 67) (.tmp 68)), (some (66, false))⟩,
    ⟨(some 70), .op (.ld (some 4) (.tmp 69)), (some (66, false))⟩,
    ⟨(some 71), .call 16 [(.tmp 70)], (some (66, false))⟩,
    ⟨(some 72), .op (.un .not (.tmp 71)), (some (66, false))⟩,
    ⟨(some 73), .op (.pick (.tmp 66) (.const (.bool true)) (.tmp 72)), none⟩])
  (.cond (.tmp 73) (.seq (.reg [⟨(some 8), .op (.mov (.const (.bool true))), none⟩])
   (.ret (mk 124 [8])))
  .skip))
  (.seq (.dreg [⟨(some 75), .op (.mov (.tmp 9)), none⟩,
    ⟨(some 76), .op (.mov (.tmp 0)), none⟩,
    ⟨(some 77), .op (.mov (.tmp 13)), none⟩,
    ⟨(some 78), .op (.iad 1 (.tmp 76) (.tmp 77)), none⟩,
    ⟨(some 79), .op (.ld none (.tmp 78)), none⟩,
    ⟨(some 80), .op (.bin .and (.tmp 79) (.const (.int .u64 7))), none⟩,
    ⟨(some 81), .op (.mov (.tmp 1)), none⟩,
    ⟨(some 82), .op (.mov (.tmp 13)), none⟩,
    ⟨(some 83), .op (.iad 4 (.tmp 81) (.tmp 82)), none⟩,
    ⟨(some 84), .op (.ld (some 4) (.tmp 83)), none⟩,
    ⟨(some 85), .call 17 [(.tmp 75), (.tmp 80), (.tmp 84)], none⟩,
    ⟨(some 74), .op (.mov (.tmp 85)), none⟩,
    ⟨(some 86), .op (.ext (.tmp 74) 0), none⟩,
    ⟨(some 87), .op (.ext (.tmp 74) 1), none⟩,
    ⟨(some 14), .op (.box (.const (.agg [(.int .i64 0), (.int .i64 0), (.str []), .nils]))), none⟩,
    ⟨none, .op (.st 4 (.tmp 14) (.tmp 86)), none⟩,
    ⟨(some 15), .op (.mov (.tmp 87)), none⟩] [(4, 14), (9, 14)])
  (.seq (.dreg [⟨(some 89), .op (.mov (.tmp 11)), none⟩,
    ⟨(some 90), .op (.mov (.tmp 2)), none⟩,
    ⟨(some 91), .op (.mov (.tmp 13)), none⟩,
    ⟨(some 92), .op (.iad 1 (.tmp 90) (.tmp 91)), none⟩,
    ⟨(some 93), .op (.ld none (.tmp 92)), none⟩,
    ⟨(some 94), .op (.bin .and (.tmp 93) (.const (.int .u64 7))), none⟩,
    ⟨(some 95), .op (.mov (.tmp 3)), none⟩,
    ⟨(some 96), .op (.mov (.tmp 13)), none⟩,
    ⟨(some 97), .op (.iad 4 (.tmp 95) (.tmp 96)), none⟩,
    ⟨(some 98), .op (.ld (some 4) (.tmp 97)), none⟩,
    ⟨(some 99), .call 17 [(.tmp 89), (.tmp 94), (.tmp 98)], none⟩,
    ⟨(some 88), .op (.mov (.tmp 99)), none⟩,
    ⟨(some 100), .op (.ext (.tmp 88) 0), none⟩,
    ⟨(some 101), .op (.ext (.tmp 88) 1), none⟩,
    ⟨(some 16), .op (.box (.const (.agg [(.int .i64 0), (.int .i64 0), (.str []), .nils]))), none⟩,
    ⟨none, .op (.st 4 (.tmp 16) (.tmp 100)), none⟩,
    ⟨(some 17), .op (.mov (.tmp 101)), none⟩] [(4, 14), (9, 14)])
  (.seq (.reg [⟨(some 102), .op (.mov (.tmp 15)), none⟩,
    ⟨(some 103), .op (.bin .neq (.tmp 102) (.const (.int .i64 0))), none⟩,
    ⟨(some 104), .op (.mov (.tmp 103)), none⟩,
    ⟨(some 105), .op (.mov (.tmp 17)), (some (104, false))⟩,
    ⟨(some 106), .op (.bin .neq (.tmp 105) (.const (.int .i64 0))), (some (104, false))⟩,
    ⟨(some 107), .op (.pick (.tmp 104) (.const (.bool true)) (.tmp 106)), none⟩,
    ⟨(some 108), .op (.mov (.tmp 107)), none⟩,
    ⟨(some 109), .op (.ld (some 4) (.tmp 14)), (some (108, false))⟩,
    ⟨(some 110), .op (.ld (some 4) (.tmp 16)), (some (108, false))⟩,
    ⟨(some 111), .call 18 [(.tmp 109), (.tmp 110)], (some (108, false))⟩,
    ⟨(some 112), .op (.un .not (.tmp 111)), (some (108, false))⟩,
    ⟨(some 113), .op (.pick (.tmp 108) (.const (.bool true)) (.tmp 112)), none⟩,
    ⟨(some 114), .op (.mov (.tmp 113)), none⟩,
    ⟨(some 115), .op (.ld (some 4) (.tmp 14)), (some (114, false))⟩,
    ⟨(some 116), .call 19 [(.tmp 115)], (some (114, false))⟩,
    ⟨(some 117), .op (.un .not (.tmp 116)), (some (114, false))⟩,
    ⟨(some 118), .op (.pick (.tmp 114) (.const (.bool true)) (.tmp 117)), none⟩])
  (.cond (.tmp 118) (.seq (.reg [⟨(some 8), .op (.mov (.const (.bool false))), none⟩])
   (.ret (mk 124 [8])))
  .skip))))))
 (.reg [⟨(some 58), .op (.mov (.tmp 13)), none⟩,
   ⟨(some 59), .op (.bin .add (.tmp 58) (.const (.int .i64 1))), none⟩,
   ⟨(some 13), .op (.mov (.tmp 59)), none⟩])))
def c3 : AFun := ⟨124, [.tmp 8], false, (.seq (.reg [⟨(some 8), .op (.mov (.const (.bool false))), none⟩])
 (.seq (.seq (.reg [⟨(some 18), .call 14 [], none⟩,
   ⟨(some 19), .op (.un .not (.tmp 18)), none⟩])
 (.cond (.tmp 19) (.seq (.reg [⟨(some 8), .op (.mov (.const (.bool false))), none⟩])
  (.ret (mk 124 [8])))
 .skip))
 (.seq (.seq (.reg [⟨(some 20), .op (.mov (.tmp 0)), none⟩,
   ⟨(some 21), .op (.lenv (.tmp 20)), none⟩,
   ⟨(some 22), .op (.bin .gtr (.tmp 21) (.const (.int .i64 40))), none⟩,
   ⟨(some 23), .op (.mov (.tmp 22)), none⟩,
   ⟨(some 24), .op (.mov (.tmp 1)), (some (23, false))⟩,
   ⟨(some 25), .op (.lenv (.tmp 24)), (some (23, false))⟩,
   ⟨(some 26), .op (.mov (.tmp 0)), (some (23, false))⟩,
   ⟨(some 27), .op (.lenv (.tmp 26)), (some (23, false))⟩,
   ⟨(some 28), .op (.bin .neq (.tmp 25) (.tmp 27)), (some (23, false))⟩,
   ⟨(some 29), .op (.pick (.tmp 23) (.const (.bool true)) (.tmp 28)), none⟩,
   ⟨(some 30), .op (.mov (.tmp 29)), none⟩,
   ⟨(some 31), .op (.mov (.tmp 2)), (some (30, false))⟩,
   ⟨(some 32), .op (.lenv (.tmp 31)), (some (30, false))⟩,
   ⟨(some 33), .op (.mov (.tmp 0)), (some (30, false))⟩,
   ⟨(some 34), .op (.lenv (.tmp 33)), (some (30, false))⟩,
   ⟨(some 35), .op (.bin .neq (.tmp 32) (.tmp 34)), (some (30, false))⟩,
   ⟨(some 36), .op (.pick (.tmp 30) (.const (.bool true)) (.tmp 35)), none⟩,
   ⟨(some 37), .op (.mov (.tmp 36)), none⟩,
   ⟨(some 38), .op (.mov (.tmp 3)), (some (37, false))⟩,
   ⟨(some 39), .op (.lenv (.tmp 38)), (some (37, false))⟩,
   ⟨(some 40), .op (.mov (.tmp 0)), (some (37, false))⟩,
   ⟨(some 41), .op (.lenv (.tmp 40)), (some (37, false))⟩,
   ⟨(some 42), .op (.bin .neq (.tmp 39) (.tmp 41)), (some (37, false))⟩,
   ⟨(some 43), .op (.pick (.tmp 37) (.const (.bool true)) (.tmp 42)), none⟩])
 (.cond (.tmp 43) (.seq (.reg [⟨(some 8), .op (.mov (.const (.bool true))), none⟩])
  (.ret (mk 124 [8])))
 .skip))
 (.seq (.reg [⟨(some 45), .op (.bsl 1 3 [(.str []), (.str []), (.str [])] [(0, (.const (.str [97]))), (1, (.const (.str [98]))), (2, (.const (.str [99])))]), none⟩,
   ⟨(some 46), .call 15 [(.tmp 45)], none⟩,
   ⟨(some 44), .op (.mov (.tmp 46)), none⟩,
   ⟨(some 47), .op (.ext (.tmp 44) 0), none⟩,
   ⟨(some 48), .op (.ext (.tmp 44) 1), none⟩,
   ⟨(some 9), .op (.mov (.tmp 47)), none⟩,
   ⟨(some 10), .op (.mov (.tmp 48)), none⟩])
 (.seq (.reg [⟨(some 50), .op (.bsl 1 3 [(.str []), (.str []), (.str [])] [(0, (.const (.str [97]))), (1, (.const (.str [98]))), (2, (.const (.str [99])))]), none⟩,
   ⟨(some 51), .call 15 [(.tmp 50)], none⟩,
   ⟨(some 49), .op (.mov (.tmp 51)), none⟩,
   ⟨(some 52), .op (.ext (.tmp 49) 0), none⟩,
   ⟨(some 53), .op (.ext (.tmp 49) 1), none⟩,
   ⟨(some 11), .op (.mov (.tmp 52)), none⟩,
   ⟨(some 12), .op (.mov (.tmp 53)), none⟩])
 (.seq (.seq (.reg [⟨(some 13), .op (.mov (.const (.int .i64 0))), none⟩])
 (.block 0 (.loop c3_m0 c3_b0)))
 (.seq (.reg [⟨(some 119), .op (.mov (.tmp 9)), none⟩,
   ⟨(some 120), .call 20 [(.tmp 119)], none⟩,
   ⟨(some 121), .op (.mov (.tmp 11)), none⟩,
   ⟨(some 122), .call 20 [(.tmp 121)], none⟩,
   ⟨(some 123), .op (.bin .eql (.tmp 120) (.tmp 122)), none⟩,
   ⟨(some 8), .op (.mov (.tmp 123)), none⟩])
 (.ret (mk 124 [8])))))))))⟩
theorem ok3 : FnOK Tryd.prog 3 c3 := ⟨Tryd.f3, _, Tryd.func3, by kernel_rfl, rfl, by kernel_rfl, by kernel_rfl, by kernel_rfl⟩

/-- sizar/sizarlaw24.BoxKeeps. -/
def c4_m0 : List Bool := (mk 140 [0, 1, 5, 7, 8, 12])
abbrev c4_f0 (v0 v1 v5 v7 v8 v12 : AV) : List AV := FM 140 [(0, v0), (1, v1), (5, v5), (7, v7), (8, v8), (12, v12)]
def c4_b0 : ACode := (.seq (.seq (.reg [⟨(some 96), .op (.mov (.tmp 12)), none⟩,
   ⟨(some 97), .op (.mov (.tmp 7)), none⟩,
   ⟨(some 98), .op (.lenv (.tmp 97)), none⟩,
   ⟨(some 99), .op (.bin .lss (.tmp 96) (.tmp 98)), none⟩])
 (.cond (.tmp 99) .skip
 (.exit 2 (mk 140 [0, 1, 5, 7, 8]))))
 (.seq (.block 3 (.seq (.reg [⟨(some 103), .op (.mov (.tmp 5)), none⟩,
    ⟨(some 104), .op (.mov (.tmp 12)), none⟩,
    ⟨(some 105), .op (.bin .add (.tmp 104) (.const (.int .i64 1))), none⟩,
    ⟨(some 106), .call 22 [(.tmp 105)], none⟩,
    ⟨(some 107), .op (.bsl 4 1 [(.int .i64 0), (.int .i64 0), (.str []), .nils] [(0, (.tmp 106))]), none⟩,
    ⟨(some 108), .call 21 [(.const (.str [36, 98, 111, 120])), (.tmp 107)], none⟩,
    ⟨(some 109), .call 23 [(.tmp 103), (.tmp 108)], none⟩,
    ⟨(some 102), .op (.mov (.tmp 109)), none⟩,
    ⟨(some 110), .op (.ext (.tmp 102) 0), none⟩,
    ⟨(some 111), .op (.ext (.tmp 102) 1), none⟩,
    ⟨(some 13), .op (.box (.const (.agg [(.int .u64 0), (.int .i64 0), (.int .i64 0), (.str []), .nils]))), none⟩,
    ⟨none, .op (.st 5 (.tmp 13) (.tmp 110)), none⟩,
    ⟨(some 14), .op (.mov (.tmp 111)), none⟩])
  (.seq (.reg [⟨(some 112), .op (.mov (.tmp 14)), none⟩,
    ⟨(some 113), .op (.bin .neq (.tmp 112) (.const (.int .i64 0))), none⟩,
    ⟨(some 114), .op (.mov (.tmp 113)), none⟩,
    ⟨(some 115), .op (.fad 0 (.tmp 13)), (some (114, false))⟩,
    ⟨(some 116), .op (.ld none (.tmp 115)), (some (114, false))⟩,
    ⟨(some 117), .op (.mov (.tmp 7)), (some (114, false))⟩,
    ⟨(some 118), .op (.mov (.tmp 12)), (some (114, false))⟩,
    ⟨(some 119), .op (.iad 5 (.tmp 117) (.tmp 118)), (some (114, false))⟩,
    ⟨(some 120), .op (.fad 0 (.tmp 119)), (some (114, false))⟩,
    ⟨(some 121), .op (.ld none (.tmp 120)), (some (114, false))⟩,
    ⟨(some 122), .op (.bin .neq (.tmp 116) (.tmp 121)), (some (114, false))⟩,
    ⟨(some 123), .op (.pick (.tmp 114) (.const (.bool true)) (.tmp 122)), none⟩,
    ⟨(some 124), .op (.mov (.tmp 123)), none⟩,
    ⟨(some 125), .op (.fad 1 (.tmp 13)), (some (124, false))⟩,
    ⟨(some 126), .op (.ld (some 4) (.tmp 125)), (some (124, false))⟩,
    ⟨(some 127), .op (.mov (.tmp 7)), (some (124, false))⟩,
    ⟨(some 128), .op (.mov (.tmp 12)), (some (124, false))⟩,
    ⟨(some 129), .op (.iad 5 (.tmp 127) (.tmp 128)), (some (124, false))⟩,
    ⟨(some 130), .op (.fad 1 (.tmp 129)), (some (124, false))⟩,
    ⟨(some 131), .op (.ld (some 4) (.tmp 130)), (some (124, false))⟩,
    ⟨(some 132), .call 18 [(.tmp 126), (.tmp 131)], (some (124, false))⟩,
    ⟨(some 133), .op (.un .not (.tmp 132)), (some (124, false))⟩,
    ⟨(some 134), .op (.pick (.tmp 124) (.const (.bool true)) (.tmp 133)), none⟩])
  (.cond (.tmp 134) (.seq (.reg [⟨(some 4), .op (.mov (.const (.bool false))), none⟩])
   (.ret (mk 140 [4])))
  .skip))))
 (.reg [⟨(some 100), .op (.mov (.tmp 12)), none⟩,
   ⟨(some 101), .op (.bin .add (.tmp 100) (.const (.int .i64 1))), none⟩,
   ⟨(some 12), .op (.mov (.tmp 101)), none⟩])))
def c4_m1 : List Bool := (mk 140 [0, 1, 5, 7, 8])
abbrev c4_f1 (v0 v1 v5 v7 v8 : AV) : List AV := FM 140 [(0, v0), (1, v1), (5, v5), (7, v7), (8, v8)]
def c4_b1 : ACode := (.seq (.seq (.reg [⟨(some 32), .op (.mov (.tmp 8)), none⟩,
   ⟨(some 33), .op (.mov (.tmp 0)), none⟩,
   ⟨(some 34), .op (.lenv (.tmp 33)), none⟩,
   ⟨(some 35), .op (.bin .lss (.tmp 32) (.tmp 34)), none⟩])
 (.cond (.tmp 35) .skip
 (.exit 0 (mk 140 [5, 7]))))
 (.seq (.block 1 (.seq (.dreg [⟨(some 39), .op (.mov (.tmp 5)), none⟩,
    ⟨(some 40), .op (.mov (.tmp 0)), none⟩,
    ⟨(some 41), .op (.mov (.tmp 8)), none⟩,
    ⟨(some 42), .op (.iad 1 (.tmp 40) (.tmp 41)), none⟩,
    ⟨(some 43), .op (.ld none (.tmp 42)), none⟩,
    ⟨(some 44), .op (.mov (.tmp 1)), none⟩,
    ⟨(some 45), .op (.mov (.tmp 8)), none⟩,
    ⟨(some 46), .op (.iad 4 (.tmp 44) (.tmp 45)), none⟩,
    ⟨(some 47), .op (.ld (some 4) (.tmp 46)), none⟩,
    ⟨(some 48), .call 17 [(.tmp 39), (.tmp 43), (.tmp 47)], none⟩,
    ⟨(some 38), .op (.mov (.tmp 48)), none⟩,
    ⟨(some 49), .op (.ext (.tmp 38) 0), none⟩,
    ⟨(some 50), .op (.ext (.tmp 38) 1), none⟩,
    ⟨(some 9), .op (.box (.const (.agg [(.int .i64 0), (.int .i64 0), (.str []), .nils]))), none⟩,
    ⟨none, .op (.st 4 (.tmp 9) (.tmp 49)), none⟩,
    ⟨(some 10), .op (.mov (.tmp 50)), none⟩] [(4, 13), (8, 13)])
  (.seq (.reg [⟨(some 51), .op (.mov (.tmp 0)), none⟩,
    ⟨(some 52), .op (.mov (.tmp 8)), none⟩,
    ⟨(some 53), .op (.iad 1 (.tmp 51) (.tmp 52)), none⟩,
    ⟨(some 54), .op (.ld none (.tmp 53)), none⟩,
    ⟨(some 55), .op (.bin .lss (.tmp 54) (.const (.int .u64 8))), none⟩,
    ⟨(some 56), .op (.mov (.tmp 55)), none⟩,
    ⟨(some 57), .op (.mov (.tmp 1)), (some (56, true))⟩,
    ⟨(some 58), .op (.mov (.tmp 8)), (some (56, true))⟩,
    ⟨(some 59), .op (.iad 4 (.tmp 57) (.tmp 58)), (some (56, true))⟩,
    ⟨(some 60), .op (.ld (some 4) (.tmp 59)), (some (56, true))⟩,
    ⟨(some 61), .call 16 [(.tmp 60)], (some (56, true))⟩,
    ⟨(some 62), .op (.pick (.tmp 56) (.tmp 61) (.const (.bool false))), none⟩,
    ⟨(some 11), .op (.mov (.tmp 62)), none⟩])
  (.seq (.seq (.reg [⟨(some 63), .op (.mov (.tmp 11)), none⟩,
    ⟨(some 64), .op (.mov (.tmp 10)), none⟩,
    ⟨(some 65), .op (.bin .eql (.tmp 64) (.const (.int .i64 0))), none⟩,
    ⟨(some 66), .op (.beq true (.tmp 63) (.tmp 65)), none⟩,
    ⟨(some 67), .op (.mov (.tmp 66)), none⟩,
    ⟨(some 68), .op (.mov (.tmp 11)), (some (67, false))⟩,
    ⟨(some 69), .op (.un .not (.tmp 68)), (some (67, false))⟩,
    ⟨(some 70), .op (.mov (.tmp 69)), (some (67, false))⟩,
    ⟨(some 71), .op (.mov (.tmp 10)), (some (70, true))⟩,
    ⟨(some 72), .op (.bin .neq (.tmp 71) (.const (.int .i64 1))), (some (70, true))⟩,
    ⟨(some 73), .op (.pick (.tmp 70) (.tmp 72) (.const (.bool false))), (some (67, false))⟩,
    ⟨(some 74), .op (.pick (.tmp 67) (.const (.bool true)) (.tmp 73)), none⟩])
  (.cond (.tmp 74) (.seq (.reg [⟨(some 4), .op (.mov (.const (.bool false))), none⟩])
   (.ret (mk 140 [4])))
  .skip))
  (.seq (.seq (.reg [⟨(some 75), .op (.mov (.tmp 11)), none⟩])
  (.cond (.tmp 75) (.seq (.reg [⟨(some 76), .op (.mov (.tmp 7)), none⟩,
     ⟨(some 77), .op (.mov (.tmp 0)), none⟩,
     ⟨(some 78), .op (.mov (.tmp 8)), none⟩,
     ⟨(some 79), .op (.iad 1 (.tmp 77) (.tmp 78)), none⟩,
     ⟨(some 80), .op (.ld none (.tmp 79)), none⟩,
     ⟨(some 81), .op (.mov (.tmp 1)), none⟩,
     ⟨(some 82), .op (.mov (.tmp 8)), none⟩,
     ⟨(some 83), .op (.iad 4 (.tmp 81) (.tmp 82)), none⟩,
     ⟨(some 84), .op (.ld (some 4) (.tmp 83)), none⟩,
     ⟨(some 85), .op (.bld [(.int .u64 0), (.int .i64 0), (.int .i64 0), (.str []), .nils] [(0, 1, (.tmp 80)), (1, 4, (.tmp 84))]), none⟩,
     ⟨(some 86), .op (.bsl 5 1 [(.int .u64 0), (.int .i64 0), (.int .i64 0), (.str []), .nils] [(0, (.tmp 85))]), none⟩,
     ⟨(some 87), .op (.app 5 64 (.tmp 76) (.tmp 86)), none⟩,
     ⟨(some 7), .op (.mov (.tmp 87)), none⟩])
   (.seq (.dreg [⟨(some 88), .op (.ld (some 4) (.tmp 9)), none⟩,
     ⟨(some 89), .op (.mov (.tmp 7)), none⟩,
     ⟨(some 90), .op (.lenv (.tmp 89)), none⟩,
     ⟨(some 91), .call 22 [(.tmp 90)], none⟩,
     ⟨(some 92), .op (.bsl 4 1 [(.int .i64 0), (.int .i64 0), (.str []), .nils] [(0, (.tmp 91))]), none⟩,
     ⟨(some 93), .call 21 [(.const (.str [36, 98, 111, 120])), (.tmp 92)], none⟩,
     ⟨(some 94), .call 18 [(.tmp 88), (.tmp 93)], none⟩,
     ⟨(some 95), .op (.un .not (.tmp 94)), none⟩] [(0, 3), (0, 4), (0, 5)])
   (.cond (.tmp 95) (.seq (.reg [⟨(some 4), .op (.mov (.const (.bool false))), none⟩])
    (.ret (mk 140 [4])))
   .skip)))
  .skip))
  (.seq (.reg [⟨(some 12), .op (.mov (.const (.int .i64 0))), none⟩])
  (.block 2 (.loop c4_m0 c4_b0))))))))
 (.reg [⟨(some 36), .op (.mov (.tmp 8)), none⟩,
   ⟨(some 37), .op (.bin .add (.tmp 36) (.const (.int .i64 1))), none⟩,
   ⟨(some 8), .op (.mov (.tmp 37)), none⟩])))
def c4 : AFun := ⟨140, [.tmp 4], false, (.seq (.reg [⟨(some 4), .op (.mov (.const (.bool false))), none⟩])
 (.seq (.seq (.reg [⟨(some 15), .call 14 [], none⟩,
   ⟨(some 16), .op (.un .not (.tmp 15)), none⟩])
 (.cond (.tmp 16) (.seq (.reg [⟨(some 4), .op (.mov (.const (.bool false))), none⟩])
  (.ret (mk 140 [4])))
 .skip))
 (.seq (.seq (.reg [⟨(some 17), .op (.mov (.tmp 0)), none⟩,
   ⟨(some 18), .op (.lenv (.tmp 17)), none⟩,
   ⟨(some 19), .op (.bin .gtr (.tmp 18) (.const (.int .i64 50))), none⟩,
   ⟨(some 20), .op (.mov (.tmp 19)), none⟩,
   ⟨(some 21), .op (.mov (.tmp 1)), (some (20, false))⟩,
   ⟨(some 22), .op (.lenv (.tmp 21)), (some (20, false))⟩,
   ⟨(some 23), .op (.mov (.tmp 0)), (some (20, false))⟩,
   ⟨(some 24), .op (.lenv (.tmp 23)), (some (20, false))⟩,
   ⟨(some 25), .op (.bin .neq (.tmp 22) (.tmp 24)), (some (20, false))⟩,
   ⟨(some 26), .op (.pick (.tmp 20) (.const (.bool true)) (.tmp 25)), none⟩])
 (.cond (.tmp 26) (.seq (.reg [⟨(some 4), .op (.mov (.const (.bool true))), none⟩])
  (.ret (mk 140 [4])))
 .skip))
 (.seq (.reg [⟨(some 28), .op (.bsl 1 3 [(.str []), (.str []), (.str [])] [(0, (.const (.str [97]))), (1, (.const (.str [98]))), (2, (.const (.str [99])))]), none⟩,
   ⟨(some 29), .call 15 [(.tmp 28)], none⟩,
   ⟨(some 27), .op (.mov (.tmp 29)), none⟩,
   ⟨(some 30), .op (.ext (.tmp 27) 0), none⟩,
   ⟨(some 31), .op (.ext (.tmp 27) 1), none⟩,
   ⟨(some 5), .op (.mov (.tmp 30)), none⟩,
   ⟨(some 6), .op (.mov (.tmp 31)), none⟩])
 (.seq (.reg [⟨(some 7), .op (.mov (.const .nils)), none⟩])
 (.seq (.seq (.reg [⟨(some 8), .op (.mov (.const (.int .i64 0))), none⟩])
 (.block 0 (.loop c4_m1 c4_b1)))
 (.seq (.reg [⟨(some 135), .op (.mov (.tmp 5)), none⟩,
   ⟨(some 136), .call 20 [(.tmp 135)], none⟩,
   ⟨(some 137), .op (.mov (.tmp 7)), none⟩,
   ⟨(some 138), .op (.lenv (.tmp 137)), none⟩,
   ⟨(some 139), .op (.bin .eql (.tmp 136) (.tmp 138)), none⟩,
   ⟨(some 4), .op (.mov (.tmp 139)), none⟩])
 (.ret (mk 140 [4])))))))))⟩
theorem ok4 : FnOK Tryd.prog 4 c4 := ⟨Tryd.f4, _, Tryd.func4, by kernel_rfl, rfl, by kernel_rfl, by kernel_rfl, by kernel_rfl⟩

/-- sizar/sizarlaw24.BoxKnown. -/
def c5_m0 : List Bool := (mk 204 [2, 3, 6, 8, 11, 12, 14, 16, 18, 20, 22, 23])
abbrev c5_f0 (v2 v3 v6 v8 v11 v12 v14 v16 v18 v20 v22 v23 : AV) : List AV := FM 204 [(2, v2), (3, v3), (6, v6), (8, v8), (11, v11), (12, v12), (14, v14), (16, v16), (18, v18), (20, v20), (22, v22), (23, v23)]
def c5_b0 : ACode := (.seq (.seq (.reg [⟨(some 103), .op (.mov (.tmp 23)), none⟩,
   ⟨(some 104), .op (.bin .lss (.tmp 103) (.const (.int .i64 999))), none⟩])
 (.cond (.tmp 104) .skip
 (.exit 0 (mk 204 [2, 3, 6, 8, 11, 12, 14, 16, 18, 20, 22]))))
 (.seq (.block 1 (.seq (.reg [⟨(some 108), .op (.mov (.tmp 3)), none⟩,
    ⟨(some 109), .op (.mov (.tmp 23)), none⟩,
    ⟨(some 110), .call 22 [(.tmp 109)], none⟩,
    ⟨(some 111), .call 17 [(.tmp 108), (.const (.int .u64 0)), (.tmp 110)], none⟩,
    ⟨(some 107), .op (.mov (.tmp 111)), none⟩,
    ⟨(some 112), .op (.ext (.tmp 107) 0), none⟩,
    ⟨(some 113), .op (.ext (.tmp 107) 1), none⟩,
    ⟨(some 24), .op (.box (.const (.agg [(.int .i64 0), (.int .i64 0), (.str []), .nils]))), none⟩,
    ⟨none, .op (.st 4 (.tmp 24) (.tmp 112)), none⟩,
    ⟨(some 25), .op (.mov (.tmp 113)), none⟩])
  (.seq (.reg [⟨(some 114), .op (.mov (.tmp 25)), none⟩,
    ⟨(some 115), .op (.bin .neq (.tmp 114) (.const (.int .i64 0))), none⟩])
  (.cond (.tmp 115) (.seq (.reg [⟨(some 0), .op (.mov (.const (.bool false))), none⟩])
   (.ret (mk 204 [0])))
  .skip))))
 (.reg [⟨(some 105), .op (.mov (.tmp 23)), none⟩,
   ⟨(some 106), .op (.bin .add (.tmp 105) (.const (.int .i64 1))), none⟩,
   ⟨(some 23), .op (.mov (.tmp 106)), none⟩])))
def c5 : AFun := ⟨204, [.tmp 0], false, (.seq (.reg [⟨(some 0), .op (.mov (.const (.bool false))), none⟩])
 (.seq (.seq (.reg [⟨(some 30), .call 14 [], none⟩,
   ⟨(some 31), .op (.un .not (.tmp 30)), none⟩])
 (.cond (.tmp 31) (.seq (.reg [⟨(some 0), .op (.mov (.const (.bool false))), none⟩])
  (.ret (mk 204 [0])))
 .skip))
 (.seq (.reg [⟨(some 33), .call 15 [(.const .nils)], none⟩,
   ⟨(some 32), .op (.mov (.tmp 33)), none⟩,
   ⟨(some 34), .op (.ext (.tmp 32) 0), none⟩,
   ⟨(some 35), .op (.ext (.tmp 32) 1), none⟩,
   ⟨(some 1), .op (.mov (.tmp 34)), none⟩,
   ⟨(some 2), .op (.mov (.tmp 35)), none⟩])
 (.seq (.reg [⟨(some 37), .op (.bsl 1 1 [(.str [])] [(0, (.const (.str [97])))]), none⟩,
   ⟨(some 38), .call 15 [(.tmp 37)], none⟩,
   ⟨(some 36), .op (.mov (.tmp 38)), none⟩,
   ⟨(some 39), .op (.ext (.tmp 36) 0), none⟩,
   ⟨(some 40), .op (.ext (.tmp 36) 1), none⟩,
   ⟨(some 3), .op (.mov (.tmp 39)), none⟩,
   ⟨(some 4), .op (.mov (.tmp 40)), none⟩])
 (.seq (.reg [⟨(some 42), .op (.mov (.tmp 3)), none⟩,
   ⟨(some 43), .call 24 [(.const (.str [120]))], none⟩,
   ⟨(some 44), .call 17 [(.tmp 42), (.const (.int .u64 2)), (.tmp 43)], none⟩,
   ⟨(some 41), .op (.mov (.tmp 44)), none⟩,
   ⟨(some 45), .op (.ext (.tmp 41) 0), none⟩,
   ⟨(some 46), .op (.ext (.tmp 41) 1), none⟩,
   ⟨(some 5), .op (.box (.const (.agg [(.int .i64 0), (.int .i64 0), (.str []), .nils]))), none⟩,
   ⟨none, .op (.st 4 (.tmp 5) (.tmp 45)), none⟩,
   ⟨(some 6), .op (.mov (.tmp 46)), none⟩])
 (.seq (.reg [⟨(some 48), .op (.mov (.tmp 3)), none⟩,
   ⟨(some 49), .op (.bld [(.int .i64 0), (.int .i64 0), (.str []), .nils] [(0, 1, (.const (.int .i64 8)))]), none⟩,
   ⟨(some 50), .call 17 [(.tmp 48), (.const (.int .u64 1)), (.tmp 49)], none⟩,
   ⟨(some 47), .op (.mov (.tmp 50)), none⟩,
   ⟨(some 51), .op (.ext (.tmp 47) 0), none⟩,
   ⟨(some 52), .op (.ext (.tmp 47) 1), none⟩,
   ⟨(some 7), .op (.box (.const (.agg [(.int .i64 0), (.int .i64 0), (.str []), .nils]))), none⟩,
   ⟨none, .op (.st 4 (.tmp 7) (.tmp 51)), none⟩,
   ⟨(some 8), .op (.mov (.tmp 52)), none⟩])
 (.seq (.reg [⟨(some 54), .op (.mov (.tmp 3)), none⟩,
   ⟨(some 55), .call 25 [(.const (.int .i64 3))], none⟩,
   ⟨(some 56), .op (.bsl 4 1 [(.int .i64 0), (.int .i64 0), (.str []), .nils] [(0, (.tmp 55))]), none⟩,
   ⟨(some 57), .call 21 [(.const (.str [102])), (.tmp 56)], none⟩,
   ⟨(some 58), .call 17 [(.tmp 54), (.const (.int .u64 1)), (.tmp 57)], none⟩,
   ⟨(some 53), .op (.mov (.tmp 58)), none⟩,
   ⟨(some 59), .op (.ext (.tmp 53) 0), none⟩,
   ⟨(some 60), .op (.ext (.tmp 53) 1), none⟩,
   ⟨(some 9), .op (.box (.const (.agg [(.int .i64 0), (.int .i64 0), (.str []), .nils]))), none⟩,
   ⟨none, .op (.st 4 (.tmp 9) (.tmp 59)), none⟩,
   ⟨(some 10), .op (.mov (.tmp 60)), none⟩])
 (.seq (.reg [⟨(some 62), .op (.mov (.tmp 3)), none⟩,
   ⟨(some 63), .op (.ld (some 4) (.tmp 9)), none⟩,
   ⟨(some 64), .call 23 [(.tmp 62), (.tmp 63)], none⟩,
   ⟨(some 61), .op (.mov (.tmp 64)), none⟩,
   ⟨(some 65), .op (.ext (.tmp 61) 0), none⟩,
   ⟨(some 66), .op (.ext (.tmp 61) 1), none⟩,
   ⟨(some 11), .op (.box (.const (.agg [(.int .u64 0), (.int .i64 0), (.int .i64 0), (.str []), .nils]))), none⟩,
   ⟨none, .op (.st 5 (.tmp 11) (.tmp 65)), none⟩,
   ⟨(some 12), .op (.mov (.tmp 66)), none⟩])
 (.seq (.reg [⟨(some 68), .op (.mov (.tmp 3)), none⟩,
   ⟨(some 69), .call 25 [(.const (.int .i64 0))], none⟩,
   ⟨(some 70), .call 23 [(.tmp 68), (.tmp 69)], none⟩,
   ⟨(some 67), .op (.mov (.tmp 70)), none⟩,
   ⟨(some 71), .op (.ext (.tmp 67) 0), none⟩,
   ⟨(some 72), .op (.ext (.tmp 67) 1), none⟩,
   ⟨(some 13), .op (.box (.const (.agg [(.int .u64 0), (.int .i64 0), (.int .i64 0), (.str []), .nils]))), none⟩,
   ⟨none, .op (.st 5 (.tmp 13) (.tmp 71)), none⟩,
   ⟨(some 14), .op (.mov (.tmp 72)), none⟩])
 (.seq (.reg [⟨(some 74), .op (.mov (.tmp 3)), none⟩,
   ⟨(some 75), .call 24 [(.const (.str [36, 98, 111, 120]))], none⟩,
   ⟨(some 76), .call 23 [(.tmp 74), (.tmp 75)], none⟩,
   ⟨(some 73), .op (.mov (.tmp 76)), none⟩,
   ⟨(some 77), .op (.ext (.tmp 73) 0), none⟩,
   ⟨(some 78), .op (.ext (.tmp 73) 1), none⟩,
   ⟨(some 15), .op (.box (.const (.agg [(.int .u64 0), (.int .i64 0), (.int .i64 0), (.str []), .nils]))), none⟩,
   ⟨none, .op (.st 5 (.tmp 15) (.tmp 77)), none⟩,
   ⟨(some 16), .op (.mov (.tmp 78)), none⟩])
 (.seq (.reg [⟨(some 80), .op (.mov (.tmp 3)), none⟩,
   ⟨(some 81), .call 22 [(.const (.int .i64 2))], none⟩,
   ⟨(some 82), .op (.bsl 4 1 [(.int .i64 0), (.int .i64 0), (.str []), .nils] [(0, (.tmp 81))]), none⟩,
   ⟨(some 83), .call 21 [(.const (.str [36, 98, 111, 120])), (.tmp 82)], none⟩,
   ⟨(some 84), .call 23 [(.tmp 80), (.tmp 83)], none⟩,
   ⟨(some 79), .op (.mov (.tmp 84)), none⟩,
   ⟨(some 85), .op (.ext (.tmp 79) 0), none⟩,
   ⟨(some 86), .op (.ext (.tmp 79) 1), none⟩,
   ⟨(some 17), .op (.box (.const (.agg [(.int .u64 0), (.int .i64 0), (.int .i64 0), (.str []), .nils]))), none⟩,
   ⟨none, .op (.st 5 (.tmp 17) (.tmp 85)), none⟩,
   ⟨(some 18), .op (.mov (.tmp 86)), none⟩])
 (.seq (.reg [⟨(some 88), .op (.mov (.tmp 3)), none⟩,
   ⟨(some 89), .call 22 [(.const (.int .i64 0))], none⟩,
   ⟨(some 90), .op (.bsl 4 1 [(.int .i64 0), (.int .i64 0), (.str []), .nils] [(0, (.tmp 89))]), none⟩,
   ⟨(some 91), .call 21 [(.const (.str [36, 98, 111, 120])), (.tmp 90)], none⟩,
   ⟨(some 92), .call 23 [(.tmp 88), (.tmp 91)], none⟩,
   ⟨(some 87), .op (.mov (.tmp 92)), none⟩,
   ⟨(some 93), .op (.ext (.tmp 87) 0), none⟩,
   ⟨(some 94), .op (.ext (.tmp 87) 1), none⟩,
   ⟨(some 19), .op (.box (.const (.agg [(.int .u64 0), (.int .i64 0), (.int .i64 0), (.str []), .nils]))), none⟩,
   ⟨none, .op (.st 5 (.tmp 19) (.tmp 93)), none⟩,
   ⟨(some 20), .op (.mov (.tmp 94)), none⟩])
 (.seq (.reg [⟨(some 96), .op (.mov (.tmp 3)), none⟩,
   ⟨(some 97), .call 25 [(.const (.int .i64 0))], none⟩,
   ⟨(some 98), .op (.bsl 4 1 [(.int .i64 0), (.int .i64 0), (.str []), .nils] [(0, (.tmp 97))]), none⟩,
   ⟨(some 99), .call 21 [(.const (.str [36, 98, 111, 120])), (.tmp 98)], none⟩,
   ⟨(some 100), .call 23 [(.tmp 96), (.tmp 99)], none⟩,
   ⟨(some 95), .op (.mov (.tmp 100)), none⟩,
   ⟨(some 101), .op (.ext (.tmp 95) 0), none⟩,
   ⟨(some 102), .op (.ext (.tmp 95) 1), none⟩,
   ⟨(some 21), .op (.box (.const (.agg [(.int .u64 0), (.int .i64 0), (.int .i64 0), (.str []), .nils]))), none⟩,
   ⟨none, .op (.st 5 (.tmp 21) (.tmp 101)), none⟩,
   ⟨(some 22), .op (.mov (.tmp 102)), none⟩])
 (.seq (.seq (.reg [⟨(some 23), .op (.mov (.const (.int .i64 0))), none⟩])
 (.block 0 (.loop c5_m0 c5_b0)))
 (.seq (.reg [⟨(some 117), .op (.mov (.tmp 3)), none⟩,
   ⟨(some 118), .call 22 [(.const (.int .i64 0))], none⟩,
   ⟨(some 119), .call 17 [(.tmp 117), (.const (.int .u64 0)), (.tmp 118)], none⟩,
   ⟨(some 116), .op (.mov (.tmp 119)), none⟩,
   ⟨(some 120), .op (.ext (.tmp 116) 0), none⟩,
   ⟨(some 121), .op (.ext (.tmp 116) 1), none⟩,
   ⟨(some 26), .op (.box (.const (.agg [(.int .i64 0), (.int .i64 0), (.str []), .nils]))), none⟩,
   ⟨none, .op (.st 4 (.tmp 26) (.tmp 120)), none⟩,
   ⟨(some 27), .op (.mov (.tmp 121)), none⟩])
 (.seq (.reg [⟨(some 123), .op (.mov (.tmp 3)), none⟩,
   ⟨(some 124), .call 22 [(.const (.int .i64 1000))], none⟩,
   ⟨(some 125), .op (.bsl 4 1 [(.int .i64 0), (.int .i64 0), (.str []), .nils] [(0, (.tmp 124))]), none⟩,
   ⟨(some 126), .call 21 [(.const (.str [36, 98, 111, 120])), (.tmp 125)], none⟩,
   ⟨(some 127), .call 23 [(.tmp 123), (.tmp 126)], none⟩,
   ⟨(some 122), .op (.mov (.tmp 127)), none⟩,
   ⟨(some 128), .op (.ext (.tmp 122) 0), none⟩,
   ⟨(some 129), .op (.ext (.tmp 122) 1), none⟩,
   ⟨(some 28), .op (.box (.const (.agg [(.int .u64 0), (.int .i64 0), (.int .i64 0), (.str []), .nils]))), none⟩,
   ⟨none, .op (.st 5 (.tmp 28) (.tmp 128)), none⟩,
   ⟨(some 29), .op (.mov (.tmp 129)), none⟩])
 (.seq (.dreg [⟨(some 130), .op (.mov (.tmp 2)), none⟩,
   ⟨(some 131), .op (.bin .eql (.tmp 130) (.const (.int .i64 1))), none⟩,
   ⟨(some 132), .op (.mov (.tmp 131)), none⟩,
   ⟨(some 133), .op (.mov (.tmp 6)), (some (132, true))⟩,
   ⟨(some 134), .op (.bin .eql (.tmp 133) (.const (.int .i64 1))), (some (132, true))⟩,
   ⟨(some 135), .op (.pick (.tmp 132) (.tmp 134) (.const (.bool false))), none⟩,
   ⟨(some 136), .op (.mov (.tmp 135)), none⟩,
   ⟨(some 137), .op (.mov (.tmp 8)), (some (136, true))⟩,
   ⟨(some 138), .op (.bin .eql (.tmp 137) (.const (.int .i64 1))), (some (136, true))⟩,
   ⟨(some 139), .op (.pick (.tmp 136) (.tmp 138) (.const (.bool false))), none⟩,
   ⟨(some 140), .op (.mov (.tmp 139)), none⟩,
   ⟨(some 141), .op (.mov (.tmp 12)), (some (140, true))⟩,
   ⟨(some 142), .op (.bin .eql (.tmp 141) (.const (.int .i64 0))), (some (140, true))⟩,
   ⟨(some 143), .op (.pick (.tmp 140) (.tmp 142) (.const (.bool false))), none⟩,
   ⟨(some 144), .op (.mov (.tmp 143)), none⟩,
   ⟨(some 145), .op (.fad 0 (.tmp 11)), (some (144, true))⟩,
   ⟨(some 146), .op (.ld none (.tmp 145)), (some (144, true))⟩,
   ⟨(some 147), .op (.bin .eql (.tmp 146) (.const (.int .u64 1))), (some (144, true))⟩,
   ⟨(some 148), .op (.pick (.tmp 144) (.tmp 147) (.const (.bool false))), none⟩,
   ⟨(some 149), .op (.mov (.tmp 148)), none⟩,
   ⟨(some 150), .op (.fad 1 (.tmp 11)), (some (149, true))⟩,
   ⟨(some 151), .op (.ld (some 4) (.tmp 150)), (some (149, true))⟩,
   ⟨(some 152), .call 25 [(.const (.int .i64 3))], (some (149, true))⟩,
   ⟨(some 153), .op (.bsl 4 1 [(.int .i64 0), (.int .i64 0), (.str []), .nils] [(0, (.tmp 152))]), (some (149, true))⟩,
   ⟨(some 154), .call 21 [(.const (.str [102])), (.tmp 153)], (some (149, true))⟩,
   ⟨(some 155), .call 18 [(.tmp 151), (.tmp 154)], (some (149, true))⟩,
   ⟨(some 156), .op (.pick (.tmp 149) (.tmp 155) (.const (.bool false))), none⟩,
   ⟨(some 157), .op (.mov (.tmp 156)), none⟩,
   ⟨(some 158), .op (.mov (.tmp 14)), (some (157, true))⟩,
   ⟨(some 159), .op (.bin .eql (.tmp 158) (.const (.int .i64 6))), (some (157, true))⟩,
   ⟨(some 160), .op (.pick (.tmp 157) (.tmp 159) (.const (.bool false))), none⟩,
   ⟨(some 161), .op (.mov (.tmp 160)), none⟩,
   ⟨(some 162), .op (.mov (.tmp 16)), (some (161, true))⟩,
   ⟨(some 163), .op (.bin .eql (.tmp 162) (.const (.int .i64 5))), (some (161, true))⟩,
   ⟨(some 164), .op (.pick (.tmp 161) (.tmp 163) (.const (.bool false))), none⟩,
   ⟨(some 165), .op (.mov (.tmp 164)), none⟩,
   ⟨(some 166), .op (.mov (.tmp 18)), (some (165, true))⟩,
   ⟨(some 167), .op (.bin .eql (.tmp 166) (.const (.int .i64 7))), (some (165, true))⟩,
   ⟨(some 168), .op (.pick (.tmp 165) (.tmp 167) (.const (.bool false))), none⟩,
   ⟨(some 169), .op (.mov (.tmp 168)), none⟩,
   ⟨(some 170), .op (.mov (.tmp 20)), (some (169, true))⟩,
   ⟨(some 171), .op (.bin .eql (.tmp 170) (.const (.int .i64 7))), (some (169, true))⟩,
   ⟨(some 172), .op (.pick (.tmp 169) (.tmp 171) (.const (.bool false))), none⟩,
   ⟨(some 173), .op (.mov (.tmp 172)), none⟩,
   ⟨(some 174), .op (.mov (.tmp 22)), (some (173, true))⟩,
   ⟨(some 175), .op (.bin .eql (.tmp 174) (.const (.int .i64 5))), (some (173, true))⟩,
   ⟨(some 176), .op (.pick (.tmp 173) (.tmp 175) (.const (.bool false))), none⟩,
   ⟨(some 177), .op (.mov (.tmp 176)), none⟩,
   ⟨(some 178), .op (.mov (.tmp 27)), (some (177, true))⟩,
   ⟨(some 179), .op (.bin .eql (.tmp 178) (.const (.int .i64 14))), (some (177, true))⟩,
   ⟨(some 180), .op (.pick (.tmp 177) (.tmp 179) (.const (.bool false))), none⟩,
   ⟨(some 181), .op (.mov (.tmp 180)), none⟩,
   ⟨(some 182), .op (.mov (.tmp 29)), (some (181, true))⟩,
   ⟨(some 183), .op (.bin .eql (.tmp 182) (.const (.int .i64 0))), (some (181, true))⟩,
   ⟨(some 184), .op (.pick (.tmp 181) (.tmp 183) (.const (.bool false))), none⟩,
   ⟨(some 185), .op (.mov (.tmp 184)), none⟩,
   ⟨(some 186), .op (.fad 1 (.tmp 28)), (some (185, true))⟩,
   ⟨(some 187), .op (.fad 1 (.tmp 186)), (some (185, true))⟩,
   ⟨(some 188), .op (.ld none (.tmp 187)), (some (185, true))⟩,
   ⟨(some 189), .op (.bin .eql (.tmp 188) (.const (.int .i64 998))), (some (185, true))⟩,
   ⟨(some 190), .op (.pick (.tmp 185) (.tmp 189) (.const (.bool false))), none⟩,
   ⟨(some 191), .op (.mov (.tmp 190)), none⟩,
   ⟨(some 192), .op (.mov (.tmp 3)), (some (191, true))⟩,
   ⟨(some 193), .call 20 [(.tmp 192)], (some (191, true))⟩,
   ⟨(some 194), .op (.bin .eql (.tmp 193) (.const (.int .i64 1000))), (some (191, true))⟩,
   ⟨(some 195), .op (.pick (.tmp 191) (.tmp 194) (.const (.bool false))), none⟩,
   ⟨(some 196), .op (.mov (.tmp 195)), none⟩,
   ⟨(some 197), .call 22 [(.const (.int .i64 1))], (some (196, true))⟩,
   ⟨(some 198), .call 22 [(.const (.int .i64 2))], (some (196, true))⟩,
   ⟨(some 199), .op (.bsl 4 2 [(.int .i64 0), (.int .i64 0), (.str []), .nils, (.int .i64 0), (.int .i64 0), (.str []), .nils] [(0, (.tmp 197)), (1, (.tmp 198))]), (some (196, true))⟩,
   ⟨(some 200), .call 21 [(.const (.str [36, 98, 111, 120])), (.tmp 199)], (some (196, true))⟩,
   ⟨(some 201), .call 19 [(.tmp 200)], (some (196, true))⟩,
   ⟨(some 202), .op (.un .not (.tmp 201)), (some (196, true))⟩,
   ⟨(some 203), .op (.pick (.tmp 196) (.tmp 202) (.const (.bool false))), none⟩,
   ⟨(some 0), .op (.mov (.tmp 203)), none⟩] [(21, 22), (21, 23), (21, 24)])
 (.ret (mk 204 [0])))))))))))))))))))⟩
theorem ok5 : FnOK Tryd.prog 5 c5 := ⟨Tryd.f5, _, Tryd.func5, by kernel_rfl, rfl, by kernel_rfl, by kernel_rfl, by kernel_rfl⟩

/-- sizar/sizarlaw1.LabelJoins. -/
def c6_m0 : List Bool := (mk 59 [0, 1, 5, 6, 7])
abbrev c6_f0 (v0 v1 v5 v6 v7 : AV) : List AV := FM 59 [(0, v0), (1, v1), (5, v5), (6, v6), (7, v7)]
def c6_b0 : ACode := (.seq (.seq (.reg [⟨(some 15), .op (.mov (.tmp 7)), none⟩,
   ⟨(some 16), .op (.mov (.tmp 0)), none⟩,
   ⟨(some 17), .op (.lenv (.tmp 16)), none⟩,
   ⟨(some 18), .op (.bin .lss (.tmp 15) (.tmp 17)), none⟩])
 (.cond (.tmp 18) .skip
 (.exit 0 (mk 59 [1, 5, 6]))))
 (.seq (.block 1 (.seq (.reg [⟨(some 21), .op (.mov (.tmp 5)), none⟩,
    ⟨(some 22), .op (.mov (.tmp 0)), none⟩,
    ⟨(some 23), .op (.mov (.tmp 7)), none⟩,
    ⟨(some 24), .op (.iad 1 (.tmp 22) (.tmp 23)), none⟩,
    ⟨(some 25), .op (.ld none (.tmp 24)), none⟩,
    ⟨(some 26), .op (.bsl 1 1 [(.int .u64 0)] [(0, (.tmp 25))]), none⟩,
    ⟨(some 27), .op (.app 1 8 (.tmp 21) (.tmp 26)), none⟩,
    ⟨(some 5), .op (.mov (.tmp 27)), none⟩])
  (.reg [⟨(some 28), .op (.mov (.tmp 6)), none⟩,
    ⟨(some 29), .op (.mov (.tmp 28)), none⟩,
    ⟨(some 30), .op (.mov (.tmp 0)), (some (29, true))⟩,
    ⟨(some 31), .op (.mov (.tmp 7)), (some (29, true))⟩,
    ⟨(some 32), .op (.iad 1 (.tmp 30) (.tmp 31)), (some (29, true))⟩,
    ⟨(some 33), .op (.ld none (.tmp 32)), (some (29, true))⟩,
    ⟨(some 34), .op (.mov (.tmp 1)), (some (29, true))⟩,
    ⟨(some 35), .op (.bin .or (.tmp 33) (.tmp 34)), (some (29, true))⟩,
    ⟨(some 36), .op (.mov (.tmp 1)), (some (29, true))⟩,
    ⟨(some 37), .op (.bin .eql (.tmp 35) (.tmp 36)), (some (29, true))⟩,
    ⟨(some 38), .op (.pick (.tmp 29) (.tmp 37) (.const (.bool false))), none⟩,
    ⟨(some 6), .op (.mov (.tmp 38)), none⟩])))
 (.reg [⟨(some 19), .op (.mov (.tmp 7)), none⟩,
   ⟨(some 20), .op (.bin .add (.tmp 19) (.const (.int .i64 1))), none⟩,
   ⟨(some 7), .op (.mov (.tmp 20)), none⟩])))
def c6_m1 : List Bool := (mk 59 [1, 5, 6, 8, 9])
abbrev c6_f1 (v1 v5 v6 v8 v9 : AV) : List AV := FM 59 [(1, v1), (5, v5), (6, v6), (8, v8), (9, v9)]
def c6_b1 : ACode := (.seq (.seq (.reg [⟨(some 41), .op (.mov (.tmp 9)), none⟩,
   ⟨(some 42), .op (.mov (.tmp 5)), none⟩,
   ⟨(some 43), .op (.lenv (.tmp 42)), none⟩,
   ⟨(some 44), .op (.bin .lss (.tmp 41) (.tmp 43)), none⟩])
 (.cond (.tmp 44) .skip
 (.exit 2 (mk 59 [1, 6, 8]))))
 (.seq (.block 3 (.seq (.reg [⟨(some 47), .op (.mov (.tmp 5)), none⟩,
    ⟨(some 48), .op (.mov (.tmp 9)), none⟩,
    ⟨(some 49), .op (.iad 1 (.tmp 47) (.tmp 48)), none⟩,
    ⟨(some 50), .op (.ld none (.tmp 49)), none⟩,
    ⟨(some 51), .op (.mov (.tmp 8)), none⟩,
    ⟨(some 52), .call 28 [(.tmp 50), (.tmp 51)], none⟩,
    ⟨(some 53), .op (.un .not (.tmp 52)), none⟩])
  (.cond (.tmp 53) (.seq (.reg [⟨(some 4), .op (.mov (.const (.bool false))), none⟩])
   (.ret (mk 59 [4])))
  .skip)))
 (.reg [⟨(some 45), .op (.mov (.tmp 9)), none⟩,
   ⟨(some 46), .op (.bin .add (.tmp 45) (.const (.int .i64 1))), none⟩,
   ⟨(some 9), .op (.mov (.tmp 46)), none⟩])))
def c6 : AFun := ⟨59, [.tmp 4], false, (.seq (.reg [⟨(some 4), .op (.mov (.const (.bool false))), none⟩])
 (.seq (.seq (.reg [⟨(some 10), .call 26 [], none⟩,
   ⟨(some 11), .op (.un .not (.tmp 10)), none⟩])
 (.cond (.tmp 11) (.seq (.reg [⟨(some 4), .op (.mov (.const (.bool false))), none⟩])
  (.ret (mk 59 [4])))
 .skip))
 (.seq (.seq (.reg [⟨(some 12), .op (.mov (.tmp 0)), none⟩,
   ⟨(some 13), .op (.lenv (.tmp 12)), none⟩,
   ⟨(some 14), .op (.bin .gtr (.tmp 13) (.const (.int .i64 100))), none⟩])
 (.cond (.tmp 14) (.seq (.reg [⟨(some 4), .op (.mov (.const (.bool true))), none⟩])
  (.ret (mk 59 [4])))
 .skip))
 (.seq (.reg [⟨(some 5), .op (.mov (.const .nils)), none⟩])
 (.seq (.reg [⟨(some 6), .op (.mov (.const (.bool true))), none⟩])
 (.seq (.seq (.reg [⟨(some 7), .op (.mov (.const (.int .i64 0))), none⟩])
 (.block 0 (.loop c6_m0 c6_b0)))
 (.seq (.reg [⟨(some 39), .op (.mov (.tmp 5)), none⟩,
   ⟨(some 40), .call 27 [(.tmp 39)], none⟩,
   ⟨(some 8), .op (.mov (.tmp 40)), none⟩])
 (.seq (.seq (.reg [⟨(some 9), .op (.mov (.const (.int .i64 0))), none⟩])
 (.block 2 (.loop c6_m1 c6_b1)))
 (.seq (.reg [⟨(some 54), .op (.mov (.tmp 8)), none⟩,
   ⟨(some 55), .op (.mov (.tmp 1)), none⟩,
   ⟨(some 56), .call 28 [(.tmp 54), (.tmp 55)], none⟩,
   ⟨(some 57), .op (.mov (.tmp 6)), none⟩,
   ⟨(some 58), .op (.beq false (.tmp 56) (.tmp 57)), none⟩,
   ⟨(some 4), .op (.mov (.tmp 58)), none⟩])
 (.ret (mk 59 [4])))))))))))⟩
theorem ok6 : FnOK Tryd.prog 6 c6 := ⟨Tryd.f6, _, Tryd.func6, by kernel_rfl, rfl, by kernel_rfl, by kernel_rfl, by kernel_rfl⟩

/-- sizar/sizarlaw1.LabelSays. -/
def c7_m0 : List Bool := (mk 123 [0, 1, 2, 9, 10, 11, 12, 13, 14, 15, 16, 17])
abbrev c7_f0 (v0 v1 v2 v9 v10 v11 v12 v13 v14 v15 v16 v17 : AV) : List AV := FM 123 [(0, v0), (1, v1), (2, v2), (9, v9), (10, v10), (11, v11), (12, v12), (13, v13), (14, v14), (15, v15), (16, v16), (17, v17)]
def c7_b0 : ACode := (.seq (.seq (.reg [⟨(some 45), .op (.mov (.tmp 17)), none⟩,
   ⟨(some 46), .op (.mov (.tmp 0)), none⟩,
   ⟨(some 47), .op (.lenv (.tmp 46)), none⟩,
   ⟨(some 48), .op (.bin .lss (.tmp 45) (.tmp 47)), none⟩])
 (.cond (.tmp 48) .skip
 (.exit 0 (mk 123 [0, 1, 2, 9, 10, 11, 12, 13, 14, 15, 16]))))
 (.seq (.block 1 (.reg [⟨(some 51), .op (.mov (.tmp 16)), none⟩,
    ⟨(some 52), .op (.bin .mul (.tmp 51) (.const (.int .u64 2))), none⟩,
    ⟨(some 53), .op (.bin .add (.tmp 52) (.const (.int .u64 1))), none⟩,
    ⟨(some 16), .op (.mov (.tmp 53)), none⟩]))
 (.reg [⟨(some 49), .op (.mov (.tmp 17)), none⟩,
   ⟨(some 50), .op (.bin .add (.tmp 49) (.const (.int .i64 1))), none⟩,
   ⟨(some 17), .op (.mov (.tmp 50)), none⟩])))
def c7 : AFun := ⟨123, [.tmp 8], false, (.seq (.reg [⟨(some 8), .op (.mov (.const (.bool false))), none⟩])
 (.seq (.seq (.reg [⟨(some 18), .call 26 [], none⟩,
   ⟨(some 19), .op (.un .not (.tmp 18)), none⟩])
 (.cond (.tmp 19) (.seq (.reg [⟨(some 8), .op (.mov (.const (.bool false))), none⟩])
  (.ret (mk 123 [8])))
 .skip))
 (.seq (.seq (.reg [⟨(some 20), .op (.mov (.tmp 0)), none⟩,
   ⟨(some 21), .op (.lenv (.tmp 20)), none⟩,
   ⟨(some 22), .op (.bin .gtr (.tmp 21) (.const (.int .i64 70))), none⟩,
   ⟨(some 23), .op (.mov (.tmp 22)), none⟩,
   ⟨(some 24), .op (.mov (.tmp 3)), (some (23, false))⟩,
   ⟨(some 25), .op (.lens (.tmp 24)), (some (23, false))⟩,
   ⟨(some 26), .op (.bin .gtr (.tmp 25) (.const (.int .i64 300))), (some (23, false))⟩,
   ⟨(some 27), .op (.pick (.tmp 23) (.const (.bool true)) (.tmp 26)), none⟩])
 (.cond (.tmp 27) (.seq (.reg [⟨(some 8), .op (.mov (.const (.bool true))), none⟩])
  (.ret (mk 123 [8])))
 .skip))
 (.seq (.reg [⟨(some 28), .op (.mov (.tmp 0)), none⟩,
   ⟨(some 9), .op (.mov (.tmp 28)), none⟩])
 (.seq (.reg [⟨(some 29), .op (.mov (.tmp 1)), none⟩,
   ⟨(some 30), .op (.mov (.tmp 2)), none⟩,
   ⟨(some 10), .op (.mov (.tmp 29)), none⟩,
   ⟨(some 11), .op (.mov (.tmp 30)), none⟩])
 (.seq (.reg [⟨(some 32), .op (.mov (.tmp 9)), none⟩,
   ⟨(some 33), .op (.mov (.tmp 3)), none⟩,
   ⟨(some 34), .call 29 [(.tmp 32), (.tmp 33)], none⟩,
   ⟨(some 31), .op (.mov (.tmp 34)), none⟩,
   ⟨(some 35), .op (.ext (.tmp 31) 0), none⟩,
   ⟨(some 36), .op (.ext (.tmp 31) 1), none⟩,
   ⟨(some 12), .op (.mov (.tmp 35)), none⟩,
   ⟨(some 13), .op (.mov (.tmp 36)), none⟩])
 (.seq (.reg [⟨(some 38), .op (.mov (.tmp 0)), none⟩,
   ⟨(some 39), .op (.mov (.tmp 3)), none⟩,
   ⟨(some 40), .call 30 [(.tmp 38), (.tmp 39)], none⟩,
   ⟨(some 37), .op (.mov (.tmp 40)), none⟩,
   ⟨(some 41), .op (.ext (.tmp 37) 0), none⟩,
   ⟨(some 42), .op (.ext (.tmp 37) 1), none⟩,
   ⟨(some 14), .op (.mov (.tmp 41)), none⟩,
   ⟨(some 15), .op (.mov (.tmp 42)), none⟩])
 (.seq (.reg [⟨(some 16), .op (.mov (.const (.int .u64 0))), none⟩])
 (.seq (.seq (.reg [⟨(some 43), .op (.mov (.tmp 0)), none⟩,
   ⟨(some 44), .call 31 [(.tmp 43)], none⟩])
 (.cond (.tmp 44) (.seq (.reg [⟨(some 17), .op (.mov (.const (.int .i64 0))), none⟩])
  (.block 0 (.loop c7_m0 c7_b0)))
 .skip))
 (.seq (.reg [⟨(some 54), .op (.mov (.tmp 9)), none⟩,
   ⟨(some 55), .call 32 [(.tmp 54)], none⟩,
   ⟨(some 56), .op (.mov (.tmp 0)), none⟩,
   ⟨(some 57), .call 31 [(.tmp 56)], none⟩,
   ⟨(some 58), .op (.beq false (.tmp 55) (.tmp 57)), none⟩,
   ⟨(some 59), .op (.mov (.tmp 58)), none⟩,
   ⟨(some 60), .op (.mov (.tmp 9)), (some (59, true))⟩,
   ⟨(some 61), .op (.mov (.tmp 10)), (some (59, true))⟩,
   ⟨(some 62), .call 33 [(.tmp 60), (.tmp 61)], (some (59, true))⟩,
   ⟨(some 63), .op (.mov (.tmp 0)), (some (59, true))⟩,
   ⟨(some 64), .op (.mov (.tmp 1)), (some (59, true))⟩,
   ⟨(some 65), .call 34 [(.tmp 63), (.tmp 64)], (some (59, true))⟩,
   ⟨(some 66), .op (.beq false (.tmp 62) (.tmp 65)), (some (59, true))⟩,
   ⟨(some 67), .op (.pick (.tmp 59) (.tmp 66) (.const (.bool false))), none⟩,
   ⟨(some 68), .op (.mov (.tmp 67)), none⟩,
   ⟨(some 69), .op (.mov (.tmp 9)), (some (68, true))⟩,
   ⟨(some 70), .op (.mov (.tmp 10)), (some (68, true))⟩,
   ⟨(some 71), .call 35 [(.tmp 69), (.tmp 70)], (some (68, true))⟩,
   ⟨(some 72), .op (.mov (.tmp 0)), (some (68, true))⟩,
   ⟨(some 73), .op (.mov (.tmp 1)), (some (68, true))⟩,
   ⟨(some 74), .call 36 [(.tmp 72), (.tmp 73)], (some (68, true))⟩,
   ⟨(some 75), .op (.bin .eql (.tmp 71) (.tmp 74)), (some (68, true))⟩,
   ⟨(some 76), .op (.pick (.tmp 68) (.tmp 75) (.const (.bool false))), none⟩,
   ⟨(some 77), .op (.mov (.tmp 76)), none⟩,
   ⟨(some 78), .op (.mov (.tmp 12)), (some (77, true))⟩,
   ⟨(some 79), .op (.mov (.tmp 14)), (some (77, true))⟩,
   ⟨(some 80), .op (.bin .eql (.tmp 78) (.tmp 79)), (some (77, true))⟩,
   ⟨(some 81), .op (.pick (.tmp 77) (.tmp 80) (.const (.bool false))), none⟩,
   ⟨(some 82), .op (.mov (.tmp 81)), none⟩,
   ⟨(some 83), .op (.mov (.tmp 13)), (some (82, true))⟩,
   ⟨(some 84), .op (.mov (.tmp 15)), (some (82, true))⟩,
   ⟨(some 85), .op (.beq false (.tmp 83) (.tmp 84)), (some (82, true))⟩,
   ⟨(some 86), .op (.pick (.tmp 82) (.tmp 85) (.const (.bool false))), none⟩,
   ⟨(some 87), .op (.mov (.tmp 86)), none⟩,
   ⟨(some 88), .op (.mov (.tmp 10)), (some (87, true))⟩,
   ⟨(some 89), .op (.mov (.tmp 11)), (some (87, true))⟩,
   ⟨(some 90), .op (.bsl 1 2 [(.int .u64 0), (.int .u64 0)] [(0, (.tmp 88)), (1, (.tmp 89))]), (some (87, true))⟩,
   ⟨(some 91), .call 27 [(.tmp 90)], (some (87, true))⟩,
   ⟨(some 92), .op (.mov (.tmp 1)), (some (87, true))⟩,
   ⟨(some 93), .op (.mov (.tmp 2)), (some (87, true))⟩,
   ⟨(some 94), .op (.bin .or (.tmp 92) (.tmp 93)), (some (87, true))⟩,
   ⟨(some 95), .op (.bin .eql (.tmp 91) (.tmp 94)), (some (87, true))⟩,
   ⟨(some 96), .op (.pick (.tmp 87) (.tmp 95) (.const (.bool false))), none⟩,
   ⟨(some 97), .op (.mov (.tmp 96)), none⟩,
   ⟨(some 98), .op (.mov (.tmp 10)), (some (97, true))⟩,
   ⟨(some 99), .op (.mov (.tmp 11)), (some (97, true))⟩,
   ⟨(some 100), .call 37 [(.tmp 98), (.tmp 99)], (some (97, true))⟩,
   ⟨(some 101), .op (.mov (.tmp 1)), (some (97, true))⟩,
   ⟨(some 102), .op (.mov (.tmp 2)), (some (97, true))⟩,
   ⟨(some 103), .op (.bin .and (.tmp 101) (.tmp 102)), (some (97, true))⟩,
   ⟨(some 104), .op (.bin .eql (.tmp 100) (.tmp 103)), (some (97, true))⟩,
   ⟨(some 105), .op (.pick (.tmp 97) (.tmp 104) (.const (.bool false))), none⟩,
   ⟨(some 106), .op (.mov (.tmp 105)), none⟩,
   ⟨(some 107), .op (.mov (.tmp 10)), (some (106, true))⟩,
   ⟨(some 108), .op (.mov (.tmp 11)), (some (106, true))⟩,
   ⟨(some 109), .call 28 [(.tmp 107), (.tmp 108)], (some (106, true))⟩,
   ⟨(some 110), .op (.mov (.tmp 1)), (some (106, true))⟩,
   ⟨(some 111), .op (.mov (.tmp 2)), (some (106, true))⟩,
   ⟨(some 112), .op (.bin .or (.tmp 110) (.tmp 111)), (some (106, true))⟩,
   ⟨(some 113), .op (.mov (.tmp 2)), (some (106, true))⟩,
   ⟨(some 114), .op (.bin .eql (.tmp 112) (.tmp 113)), (some (106, true))⟩,
   ⟨(some 115), .op (.beq false (.tmp 109) (.tmp 114)), (some (106, true))⟩,
   ⟨(some 116), .op (.pick (.tmp 106) (.tmp 115) (.const (.bool false))), none⟩,
   ⟨(some 117), .op (.mov (.tmp 116)), none⟩,
   ⟨(some 118), .op (.mov (.tmp 9)), (some (117, true))⟩,
   ⟨(some 119), .call 38 [(.tmp 118)], (some (117, true))⟩,
   ⟨(some 120), .op (.mov (.tmp 16)), (some (117, true))⟩,
   ⟨(some 121), .op (.bin .eql (.tmp 119) (.tmp 120)), (some (117, true))⟩,
   ⟨(some 122), .op (.pick (.tmp 117) (.tmp 121) (.const (.bool false))), none⟩,
   ⟨(some 8), .op (.mov (.tmp 122)), none⟩])
 (.ret (mk 123 [8]))))))))))))⟩
theorem ok7 : FnOK Tryd.prog 7 c7 := ⟨Tryd.f7, _, Tryd.func7, by kernel_rfl, rfl, by kernel_rfl, by kernel_rfl, by kernel_rfl⟩

/-- sizar/sizarlaw1.LabelTexts. -/
def c8 : AFun := ⟨60, [.tmp 4], false, (.seq (.reg [⟨(some 4), .op (.mov (.const (.bool false))), none⟩])
 (.seq (.seq (.reg [⟨(some 8), .call 26 [], none⟩,
   ⟨(some 9), .op (.un .not (.tmp 8)), none⟩])
 (.cond (.tmp 9) (.seq (.reg [⟨(some 4), .op (.mov (.const (.bool false))), none⟩])
  (.ret (mk 60 [4])))
 .skip))
 (.seq (.reg [⟨(some 10), .call 39 [], none⟩,
   ⟨(some 5), .op (.mov (.tmp 10)), none⟩])
 (.seq (.reg [⟨(some 11), .op (.mov (.tmp 0)), none⟩,
   ⟨(some 12), .op (.bin .and (.tmp 11) (.const (.int .u64 7))), none⟩,
   ⟨(some 13), .op (.mov (.tmp 1)), none⟩,
   ⟨(some 14), .op (.bin .and (.tmp 13) (.const (.int .u64 7))), none⟩,
   ⟨(some 6), .op (.mov (.tmp 12)), none⟩,
   ⟨(some 7), .op (.mov (.tmp 14)), none⟩])
 (.seq (.reg [⟨(some 15), .op (.mov (.tmp 5)), none⟩,
   ⟨(some 16), .op (.mov (.tmp 6)), none⟩,
   ⟨(some 17), .call 35 [(.tmp 15), (.tmp 16)], none⟩,
   ⟨(some 18), .op (.mov (.tmp 5)), none⟩,
   ⟨(some 19), .op (.mov (.tmp 7)), none⟩,
   ⟨(some 20), .call 35 [(.tmp 18), (.tmp 19)], none⟩,
   ⟨(some 21), .op (.bin .eql (.tmp 17) (.tmp 20)), none⟩,
   ⟨(some 22), .op (.mov (.tmp 6)), none⟩,
   ⟨(some 23), .op (.mov (.tmp 7)), none⟩,
   ⟨(some 24), .op (.bin .eql (.tmp 22) (.tmp 23)), none⟩,
   ⟨(some 25), .op (.beq false (.tmp 21) (.tmp 24)), none⟩,
   ⟨(some 26), .op (.mov (.tmp 25)), none⟩,
   ⟨(some 27), .op (.mov (.tmp 6)), (some (26, true))⟩,
   ⟨(some 28), .op (.mov (.tmp 7)), (some (26, true))⟩,
   ⟨(some 29), .call 28 [(.tmp 27), (.tmp 28)], (some (26, true))⟩,
   ⟨(some 30), .op (.mov (.tmp 29)), (some (26, true))⟩,
   ⟨(some 31), .op (.mov (.tmp 7)), (some (30, true))⟩,
   ⟨(some 32), .op (.mov (.tmp 6)), (some (30, true))⟩,
   ⟨(some 33), .call 28 [(.tmp 31), (.tmp 32)], (some (30, true))⟩,
   ⟨(some 34), .op (.pick (.tmp 30) (.tmp 33) (.const (.bool false))), (some (26, true))⟩,
   ⟨(some 35), .op (.mov (.tmp 6)), (some (26, true))⟩,
   ⟨(some 36), .op (.mov (.tmp 7)), (some (26, true))⟩,
   ⟨(some 37), .op (.bin .eql (.tmp 35) (.tmp 36)), (some (26, true))⟩,
   ⟨(some 38), .op (.beq false (.tmp 34) (.tmp 37)), (some (26, true))⟩,
   ⟨(some 39), .op (.pick (.tmp 26) (.tmp 38) (.const (.bool false))), none⟩,
   ⟨(some 40), .op (.mov (.tmp 39)), none⟩,
   ⟨(some 41), .op (.mov (.tmp 6)), (some (40, true))⟩,
   ⟨(some 42), .op (.mov (.tmp 6)), (some (40, true))⟩,
   ⟨(some 43), .op (.mov (.tmp 7)), (some (40, true))⟩,
   ⟨(some 44), .op (.bsl 1 2 [(.int .u64 0), (.int .u64 0)] [(0, (.tmp 42)), (1, (.tmp 43))]), (some (40, true))⟩,
   ⟨(some 45), .call 27 [(.tmp 44)], (some (40, true))⟩,
   ⟨(some 46), .call 37 [(.tmp 41), (.tmp 45)], (some (40, true))⟩,
   ⟨(some 47), .op (.mov (.tmp 6)), (some (40, true))⟩,
   ⟨(some 48), .op (.bin .eql (.tmp 46) (.tmp 47)), (some (40, true))⟩,
   ⟨(some 49), .op (.pick (.tmp 40) (.tmp 48) (.const (.bool false))), none⟩,
   ⟨(some 50), .op (.mov (.tmp 49)), none⟩,
   ⟨(some 51), .op (.mov (.tmp 6)), (some (50, true))⟩,
   ⟨(some 52), .op (.mov (.tmp 6)), (some (50, true))⟩,
   ⟨(some 53), .op (.mov (.tmp 7)), (some (50, true))⟩,
   ⟨(some 54), .call 37 [(.tmp 52), (.tmp 53)], (some (50, true))⟩,
   ⟨(some 55), .op (.bsl 1 2 [(.int .u64 0), (.int .u64 0)] [(0, (.tmp 51)), (1, (.tmp 54))]), (some (50, true))⟩,
   ⟨(some 56), .call 27 [(.tmp 55)], (some (50, true))⟩,
   ⟨(some 57), .op (.mov (.tmp 6)), (some (50, true))⟩,
   ⟨(some 58), .op (.bin .eql (.tmp 56) (.tmp 57)), (some (50, true))⟩,
   ⟨(some 59), .op (.pick (.tmp 50) (.tmp 58) (.const (.bool false))), none⟩,
   ⟨(some 4), .op (.mov (.tmp 59)), none⟩])
 (.ret (mk 60 [4])))))))⟩
theorem ok8 : FnOK Tryd.prog 8 c8 := ⟨Tryd.f8, _, Tryd.func8, by kernel_rfl, rfl, by kernel_rfl, by kernel_rfl, by kernel_rfl⟩

/-- sizar/sizarlaw1.LabelKnown. -/
def c9_m0 : List Bool := (mk 171 [1, 2])
abbrev c9_f0 (v1 v2 : AV) : List AV := FM 171 [(1, v1), (2, v2)]
def c9_b0 : ACode := (.seq (.seq (.reg [⟨(some 21), .op (.mov (.tmp 2)), none⟩,
   ⟨(some 22), .op (.mov (.tmp 1)), none⟩,
   ⟨(some 23), .op (.lenv (.tmp 22)), none⟩,
   ⟨(some 24), .op (.bin .lss (.tmp 21) (.tmp 23)), none⟩])
 (.cond (.tmp 24) .skip
 (.exit 0 (mk 171 []))))
 (.seq (.block 1 (.seq (.reg [⟨(some 28), .op (.mov (.tmp 1)), none⟩,
    ⟨(some 29), .op (.mov (.tmp 2)), none⟩,
    ⟨(some 30), .op (.iad 1 (.tmp 28) (.tmp 29)), none⟩,
    ⟨(some 31), .op (.ld none (.tmp 30)), none⟩,
    ⟨(some 32), .call 29 [(.tmp 31), (.const (.str [123, 125]))], none⟩,
    ⟨(some 27), .op (.mov (.tmp 32)), none⟩,
    ⟨(some 33), .op (.ext (.tmp 27) 0), none⟩,
    ⟨(some 34), .op (.ext (.tmp 27) 1), none⟩,
    ⟨(some 3), .op (.mov (.tmp 33)), none⟩,
    ⟨(some 4), .op (.mov (.tmp 34)), none⟩])
  (.seq (.reg [⟨(some 35), .op (.mov (.tmp 1)), none⟩,
    ⟨(some 36), .op (.mov (.tmp 2)), none⟩,
    ⟨(some 37), .op (.iad 1 (.tmp 35) (.tmp 36)), none⟩,
    ⟨(some 38), .op (.ld none (.tmp 37)), none⟩,
    ⟨(some 39), .call 32 [(.tmp 38)], none⟩,
    ⟨(some 40), .op (.mov (.tmp 39)), none⟩,
    ⟨(some 41), .op (.mov (.tmp 4)), (some (40, false))⟩,
    ⟨(some 42), .op (.pick (.tmp 40) (.const (.bool true)) (.tmp 41)), none⟩,
    ⟨(some 43), .op (.mov (.tmp 42)), none⟩,
    ⟨(some 44), .op (.mov (.tmp 1)), (some (43, false))⟩,
    ⟨(some 45), .op (.mov (.tmp 2)), (some (43, false))⟩,
    ⟨(some 46), .op (.iad 1 (.tmp 44) (.tmp 45)), (some (43, false))⟩,
    ⟨(some 47), .op (.ld none (.tmp 46)), (some (43, false))⟩,
    ⟨(some 48), .call 35 [(.tmp 47), (.const (.int .u64 0))], (some (43, false))⟩,
    ⟨(some 49), .op (.bin .neq (.tmp 48) (.const (.str []))), (some (43, false))⟩,
    ⟨(some 50), .op (.pick (.tmp 43) (.const (.bool true)) (.tmp 49)), none⟩,
    ⟨(some 51), .op (.mov (.tmp 50)), none⟩,
    ⟨(some 52), .op (.mov (.tmp 1)), (some (51, false))⟩,
    ⟨(some 53), .op (.mov (.tmp 2)), (some (51, false))⟩,
    ⟨(some 54), .op (.iad 1 (.tmp 52) (.tmp 53)), (some (51, false))⟩,
    ⟨(some 55), .op (.ld none (.tmp 54)), (some (51, false))⟩,
    ⟨(some 56), .call 38 [(.tmp 55)], (some (51, false))⟩,
    ⟨(some 57), .op (.bin .neq (.tmp 56) (.const (.int .u64 0))), (some (51, false))⟩,
    ⟨(some 58), .op (.pick (.tmp 51) (.const (.bool true)) (.tmp 57)), none⟩,
    ⟨(some 59), .op (.mov (.tmp 58)), none⟩,
    ⟨(some 60), .op (.mov (.tmp 1)), (some (59, false))⟩,
    ⟨(some 61), .op (.mov (.tmp 2)), (some (59, false))⟩,
    ⟨(some 62), .op (.iad 1 (.tmp 60) (.tmp 61)), (some (59, false))⟩,
    ⟨(some 63), .op (.ld none (.tmp 62)), (some (59, false))⟩,
    ⟨(some 64), .call 33 [(.tmp 63), (.const (.int .u64 0))], (some (59, false))⟩,
    ⟨(some 65), .op (.pick (.tmp 59) (.const (.bool true)) (.tmp 64)), none⟩])
  (.cond (.tmp 65) (.seq (.reg [⟨(some 0), .op (.mov (.const (.bool false))), none⟩])
   (.ret (mk 171 [0])))
  .skip))))
 (.reg [⟨(some 25), .op (.mov (.tmp 2)), none⟩,
   ⟨(some 26), .op (.bin .add (.tmp 25) (.const (.int .i64 1))), none⟩,
   ⟨(some 2), .op (.mov (.tmp 26)), none⟩])))
def c9_m1 : List Bool := (mk 171 [5, 6])
abbrev c9_f1 (v5 v6 : AV) : List AV := FM 171 [(5, v5), (6, v6)]
def c9_b1 : ACode := (.seq (.seq (.reg [⟨(some 67), .op (.mov (.tmp 6)), none⟩,
   ⟨(some 68), .op (.mov (.tmp 5)), none⟩,
   ⟨(some 69), .op (.lenv (.tmp 68)), none⟩,
   ⟨(some 70), .op (.bin .lss (.tmp 67) (.tmp 69)), none⟩])
 (.cond (.tmp 70) .skip
 (.exit 2 (mk 171 []))))
 (.seq (.block 3 (.seq (.dreg [⟨(some 74), .call 39 [], none⟩,
    ⟨(some 75), .op (.mov (.tmp 5)), none⟩,
    ⟨(some 76), .op (.mov (.tmp 6)), none⟩,
    ⟨(some 77), .op (.iad 1 (.tmp 75) (.tmp 76)), none⟩,
    ⟨(some 78), .op (.ld none (.tmp 77)), none⟩,
    ⟨(some 79), .call 29 [(.tmp 74), (.tmp 78)], none⟩,
    ⟨(some 73), .op (.mov (.tmp 79)), none⟩,
    ⟨(some 80), .op (.ext (.tmp 73) 0), none⟩,
    ⟨(some 81), .op (.ext (.tmp 73) 1), none⟩,
    ⟨(some 7), .op (.mov (.tmp 80)), none⟩,
    ⟨(some 8), .op (.mov (.tmp 81)), none⟩] [(4, 0)])
  (.seq (.reg [⟨(some 82), .op (.mov (.tmp 8)), none⟩,
    ⟨(some 83), .op (.mov (.tmp 82)), none⟩,
    ⟨(some 84), .op (.mov (.tmp 7)), (some (83, false))⟩,
    ⟨(some 85), .op (.bin .neq (.tmp 84) (.const (.int .u64 0))), (some (83, false))⟩,
    ⟨(some 86), .op (.pick (.tmp 83) (.const (.bool true)) (.tmp 85)), none⟩])
  (.cond (.tmp 86) (.seq (.reg [⟨(some 0), .op (.mov (.const (.bool false))), none⟩])
   (.ret (mk 171 [0])))
  .skip))))
 (.reg [⟨(some 71), .op (.mov (.tmp 6)), none⟩,
   ⟨(some 72), .op (.bin .add (.tmp 71) (.const (.int .i64 1))), none⟩,
   ⟨(some 6), .op (.mov (.tmp 72)), none⟩])))
def c9 : AFun := ⟨171, [.tmp 0], false, (.seq (.reg [⟨(some 0), .op (.mov (.const (.bool false))), none⟩])
 (.seq (.seq (.reg [⟨(some 12), .call 26 [], none⟩,
   ⟨(some 13), .op (.un .not (.tmp 12)), none⟩])
 (.cond (.tmp 13) (.seq (.reg [⟨(some 0), .op (.mov (.const (.bool false))), none⟩])
  (.ret (mk 171 [0])))
 .skip))
 (.seq (.reg [⟨(some 14), .op (.bsl 1 1 [(.str [])] [(0, (.const (.str [65])))]), none⟩,
   ⟨(some 15), .op (.bsl 1 1 [(.str [])] [(0, (.const (.str [])))]), none⟩,
   ⟨(some 16), .op (.bsl 1 1 [(.str [])] [(0, (.const (.str [49, 97])))]), none⟩,
   ⟨(some 17), .op (.bsl 1 2 [(.str []), (.str [])] [(0, (.const (.str [97]))), (1, (.const (.str [97])))]), none⟩,
   ⟨(some 18), .op (.bsl 1 1 [(.str [])] [(0, (.const (.str [97, 98, 99, 100, 101, 102, 103, 104, 105, 106, 107, 108, 109, 110, 111, 112, 113])))]), none⟩,
   ⟨(some 19), .op (.bsl 1 1 [(.str [])] [(0, (.const (.str [97, 45, 98])))]), none⟩,
   ⟨(some 20), .op (.bsl 1 7 [.nils, .nils, .nils, .nils, .nils, .nils, .nils] [(0, (.const .nils)), (1, (.tmp 14)), (2, (.tmp 15)), (3, (.tmp 16)), (4, (.tmp 17)), (5, (.tmp 18)), (6, (.tmp 19))]), none⟩,
   ⟨(some 1), .op (.mov (.tmp 20)), none⟩])
 (.seq (.seq (.reg [⟨(some 2), .op (.mov (.const (.int .i64 0))), none⟩])
 (.block 0 (.loop c9_m0 c9_b0)))
 (.seq (.reg [⟨(some 66), .op (.bsl 1 10 [(.str []), (.str []), (.str []), (.str []), (.str []), (.str []), (.str []), (.str []), (.str []), (.str [])] [(0, (.const (.str []))), (1, (.const (.str [123]))), (2, (.const (.str [123, 125, 120]))), (3, (.const (.str [123, 99, 44, 97, 125]))), (4, (.const (.str [123, 97, 44, 97, 125]))), (5, (.const (.str [123, 100, 125]))), (6, (.const (.str [123, 97, 44, 125]))), (7, (.const (.str [97]))), (8, (.const (.str [123, 32, 97, 125]))), (9, (.const (.str [123, 97, 32, 98, 125])))]), none⟩,
   ⟨(some 5), .op (.mov (.tmp 66)), none⟩])
 (.seq (.seq (.reg [⟨(some 6), .op (.mov (.const (.int .i64 0))), none⟩])
 (.block 2 (.loop c9_m1 c9_b1)))
 (.seq (.reg [⟨(some 88), .call 39 [], none⟩,
   ⟨(some 89), .call 29 [(.tmp 88), (.const (.str [123, 125]))], none⟩,
   ⟨(some 87), .op (.mov (.tmp 89)), none⟩,
   ⟨(some 90), .op (.ext (.tmp 87) 0), none⟩,
   ⟨(some 91), .op (.ext (.tmp 87) 1), none⟩,
   ⟨(some 9), .op (.mov (.tmp 90)), none⟩,
   ⟨(some 10), .op (.mov (.tmp 91)), none⟩])
 (.seq (.reg [⟨(some 92), .call 39 [], none⟩,
   ⟨(some 93), .call 40 [(.tmp 92), (.const (.int .u64 5))], none⟩,
   ⟨(some 11), .op (.mov (.tmp 93)), none⟩])
 (.seq (.seq (.reg [⟨(some 94), .op (.mov (.tmp 11)), none⟩,
   ⟨(some 95), .op (.lenv (.tmp 94)), none⟩,
   ⟨(some 96), .op (.bin .neq (.tmp 95) (.const (.int .i64 4))), none⟩])
 (.cond (.tmp 96) (.seq (.reg [⟨(some 0), .op (.mov (.const (.bool false))), none⟩])
  (.ret (mk 171 [0])))
 .skip))
 (.seq (.reg [⟨(some 97), .op (.mov (.tmp 10)), none⟩,
   ⟨(some 98), .op (.mov (.tmp 97)), none⟩,
   ⟨(some 99), .op (.mov (.tmp 9)), (some (98, true))⟩,
   ⟨(some 100), .op (.bin .eql (.tmp 99) (.const (.int .u64 0))), (some (98, true))⟩,
   ⟨(some 101), .op (.pick (.tmp 98) (.tmp 100) (.const (.bool false))), none⟩,
   ⟨(some 102), .op (.mov (.tmp 101)), none⟩,
   ⟨(some 103), .call 39 [], (some (102, true))⟩,
   ⟨(some 104), .call 33 [(.tmp 103), (.const (.int .u64 8))], (some (102, true))⟩,
   ⟨(some 105), .op (.un .not (.tmp 104)), (some (102, true))⟩,
   ⟨(some 106), .op (.pick (.tmp 102) (.tmp 105) (.const (.bool false))), none⟩,
   ⟨(some 107), .op (.mov (.tmp 106)), none⟩,
   ⟨(some 108), .call 39 [], (some (107, true))⟩,
   ⟨(some 109), .call 35 [(.tmp 108), (.const (.int .u64 8))], (some (107, true))⟩,
   ⟨(some 110), .op (.bin .eql (.tmp 109) (.const (.str []))), (some (107, true))⟩,
   ⟨(some 111), .op (.pick (.tmp 107) (.tmp 110) (.const (.bool false))), none⟩,
   ⟨(some 112), .op (.mov (.tmp 111)), none⟩,
   ⟨(some 113), .call 39 [], (some (112, true))⟩,
   ⟨(some 114), .call 38 [(.tmp 113)], (some (112, true))⟩,
   ⟨(some 115), .op (.bin .eql (.tmp 114) (.const (.int .u64 7))), (some (112, true))⟩,
   ⟨(some 116), .op (.pick (.tmp 112) (.tmp 115) (.const (.bool false))), none⟩,
   ⟨(some 117), .op (.mov (.tmp 116)), none⟩,
   ⟨(some 118), .op (.bsl 1 2 [(.int .u64 0), (.int .u64 0)] [(0, (.const (.int .u64 1))), (1, (.const (.int .u64 4)))]), (some (117, true))⟩,
   ⟨(some 119), .call 27 [(.tmp 118)], (some (117, true))⟩,
   ⟨(some 120), .op (.bin .eql (.tmp 119) (.const (.int .u64 5))), (some (117, true))⟩,
   ⟨(some 121), .op (.pick (.tmp 117) (.tmp 120) (.const (.bool false))), none⟩,
   ⟨(some 122), .op (.mov (.tmp 121)), none⟩,
   ⟨(some 123), .call 27 [(.const .nils)], (some (122, true))⟩,
   ⟨(some 124), .op (.bin .eql (.tmp 123) (.const (.int .u64 0))), (some (122, true))⟩,
   ⟨(some 125), .op (.pick (.tmp 122) (.tmp 124) (.const (.bool false))), none⟩,
   ⟨(some 126), .op (.mov (.tmp 125)), none⟩,
   ⟨(some 127), .call 37 [(.const (.int .u64 6)), (.const (.int .u64 3))], (some (126, true))⟩,
   ⟨(some 128), .op (.bin .eql (.tmp 127) (.const (.int .u64 2))), (some (126, true))⟩,
   ⟨(some 129), .op (.pick (.tmp 126) (.tmp 128) (.const (.bool false))), none⟩,
   ⟨(some 130), .op (.mov (.tmp 129)), none⟩,
   ⟨(some 131), .call 28 [(.const (.int .u64 1)), (.const (.int .u64 5))], (some (130, true))⟩,
   ⟨(some 132), .op (.pick (.tmp 130) (.tmp 131) (.const (.bool false))), none⟩,
   ⟨(some 133), .op (.mov (.tmp 132)), none⟩,
   ⟨(some 134), .call 28 [(.const (.int .u64 2)), (.const (.int .u64 5))], (some (133, true))⟩,
   ⟨(some 135), .op (.un .not (.tmp 134)), (some (133, true))⟩,
   ⟨(some 136), .op (.pick (.tmp 133) (.tmp 135) (.const (.bool false))), none⟩,
   ⟨(some 137), .op (.mov (.tmp 136)), none⟩,
   ⟨(some 138), .op (.mov (.tmp 11)), (some (137, true))⟩,
   ⟨(some 139), .op (.iad 1 (.tmp 138) (.const (.int .i64 0))), (some (137, true))⟩,
   ⟨(some 140), .op (.ld none (.tmp 139)), (some (137, true))⟩,
   ⟨(some 141), .op (.bin .eql (.tmp 140) (.const (.int .u64 0))), (some (137, true))⟩,
   ⟨(some 142), .op (.pick (.tmp 137) (.tmp 141) (.const (.bool false))), none⟩,
   ⟨(some 143), .op (.mov (.tmp 142)), none⟩,
   ⟨(some 144), .op (.mov (.tmp 11)), (some (143, true))⟩,
   ⟨(some 145), .op (.iad 1 (.tmp 144) (.const (.int .i64 1))), (some (143, true))⟩,
   ⟨(some 146), .op (.ld none (.tmp 145)), (some (143, true))⟩,
   ⟨(some 147), .op (.bin .eql (.tmp 146) (.const (.int .u64 1))), (some (143, true))⟩,
   ⟨(some 148), .op (.pick (.tmp 143) (.tmp 147) (.const (.bool false))), none⟩,
   ⟨(some 149), .op (.mov (.tmp 148)), none⟩,
   ⟨(some 150), .op (.mov (.tmp 11)), (some (149, true))⟩,
   ⟨(some 151), .op (.iad 1 (.tmp 150) (.const (.int .i64 2))), (some (149, true))⟩,
   ⟨(some 152), .op (.ld none (.tmp 151)), (some (149, true))⟩,
   ⟨(some 153), .op (.bin .eql (.tmp 152) (.const (.int .u64 4))), (some (149, true))⟩,
   ⟨(some 154), .op (.pick (.tmp 149) (.tmp 153) (.const (.bool false))), none⟩,
   ⟨(some 155), .op (.mov (.tmp 154)), none⟩,
   ⟨(some 156), .op (.mov (.tmp 11)), (some (155, true))⟩,
   ⟨(some 157), .op (.iad 1 (.tmp 156) (.const (.int .i64 3))), (some (155, true))⟩,
   ⟨(some 158), .op (.ld none (.tmp 157)), (some (155, true))⟩,
   ⟨(some 159), .op (.bin .eql (.tmp 158) (.const (.int .u64 5))), (some (155, true))⟩,
   ⟨(some 160), .op (.pick (.tmp 155) (.tmp 159) (.const (.bool false))), none⟩,
   ⟨(some 161), .op (.mov (.tmp 160)), none⟩,
   ⟨(some 162), .call 39 [], (some (161, true))⟩,
   ⟨(some 163), .call 40 [(.tmp 162), (.const (.int .u64 8))], (some (161, true))⟩,
   ⟨(some 164), .op (.lenv (.tmp 163)), (some (161, true))⟩,
   ⟨(some 165), .op (.bin .eql (.tmp 164) (.const (.int .i64 0))), (some (161, true))⟩,
   ⟨(some 166), .op (.pick (.tmp 161) (.tmp 165) (.const (.bool false))), none⟩,
   ⟨(some 167), .op (.mov (.tmp 166)), none⟩,
   ⟨(some 168), .op (.bsl 1 1 [(.str [])] [(0, (.const (.str [97, 95, 49, 98])))]), (some (167, true))⟩,
   ⟨(some 169), .call 32 [(.tmp 168)], (some (167, true))⟩,
   ⟨(some 170), .op (.pick (.tmp 167) (.tmp 169) (.const (.bool false))), none⟩,
   ⟨(some 0), .op (.mov (.tmp 170)), none⟩])
 (.ret (mk 171 [0]))))))))))))⟩
theorem ok9 : FnOK Tryd.prog 9 c9 := ⟨Tryd.f9, _, Tryd.func9, by kernel_rfl, rfl, by kernel_rfl, by kernel_rfl, by kernel_rfl⟩

/-- sizar/sizarlaw1.LabelLattice. -/
def c10_m0 : List Bool := (mk 145 [8, 9, 10, 11, 15, 16, 17])
abbrev c10_f0 (v8 v9 v10 v11 v15 v16 v17 : AV) : List AV := FM 145 [(8, v8), (9, v9), (10, v10), (11, v11), (15, v15), (16, v16), (17, v17)]
def c10_b0 : ACode := (.seq (.seq (.reg [⟨(some 108), .op (.mov (.tmp 17)), none⟩,
   ⟨(some 109), .op (.bin .lss (.tmp 108) (.const (.int .u64 64))), none⟩])
 (.cond (.tmp 109) .skip
 (.exit 0 (mk 145 [8, 9, 10, 11, 15, 16]))))
 (.seq (.block 1 (.seq (.reg [⟨(some 112), .op (.mov (.tmp 17)), none⟩,
    ⟨(some 113), .op (.mov (.tmp 8)), none⟩,
    ⟨(some 114), .call 28 [(.tmp 112), (.tmp 113)], none⟩])
  (.cond (.tmp 114) (.seq (.seq (.reg [⟨(some 115), .op (.mov (.tmp 16)), none⟩,
     ⟨(some 116), .op (.mov (.tmp 15)), none⟩,
     ⟨(some 117), .op (.lenv (.tmp 116)), none⟩,
     ⟨(some 118), .op (.bin .geq (.tmp 115) (.tmp 117)), none⟩,
     ⟨(some 119), .op (.mov (.tmp 118)), none⟩,
     ⟨(some 120), .op (.mov (.tmp 15)), (some (119, false))⟩,
     ⟨(some 121), .op (.mov (.tmp 16)), (some (119, false))⟩,
     ⟨(some 122), .op (.iad 1 (.tmp 120) (.tmp 121)), (some (119, false))⟩,
     ⟨(some 123), .op (.ld none (.tmp 122)), (some (119, false))⟩,
     ⟨(some 124), .op (.mov (.tmp 17)), (some (119, false))⟩,
     ⟨(some 125), .op (.bin .neq (.tmp 123) (.tmp 124)), (some (119, false))⟩,
     ⟨(some 126), .op (.pick (.tmp 119) (.const (.bool true)) (.tmp 125)), none⟩])
   (.cond (.tmp 126) (.seq (.reg [⟨(some 6), .op (.mov (.const (.bool false))), none⟩])
    (.ret (mk 145 [6])))
   .skip))
   (.reg [⟨(some 127), .op (.mov (.tmp 16)), none⟩,
     ⟨(some 128), .op (.bin .add (.tmp 127) (.const (.int .i64 1))), none⟩,
     ⟨(some 16), .op (.mov (.tmp 128)), none⟩]))
  .skip)))
 (.reg [⟨(some 110), .op (.mov (.tmp 17)), none⟩,
   ⟨(some 111), .op (.bin .add (.tmp 110) (.const (.int .u64 1))), none⟩,
   ⟨(some 17), .op (.mov (.tmp 111)), none⟩])))
def c10 : AFun := ⟨145, [.tmp 6], false, (.seq (.reg [⟨(some 6), .op (.mov (.const (.bool false))), none⟩])
 (.seq (.seq (.reg [⟨(some 18), .call 26 [], none⟩,
   ⟨(some 19), .op (.un .not (.tmp 18)), none⟩])
 (.cond (.tmp 19) (.seq (.reg [⟨(some 6), .op (.mov (.const (.bool false))), none⟩])
  (.ret (mk 145 [6])))
 .skip))
 (.seq (.reg [⟨(some 20), .op (.bsl 1 6 [(.str []), (.str []), (.str []), (.str []), (.str []), (.str [])] [(0, (.const (.str [97]))), (1, (.const (.str [98]))), (2, (.const (.str [99]))), (3, (.const (.str [100]))), (4, (.const (.str [101]))), (5, (.const (.str [102])))]), none⟩,
   ⟨(some 7), .op (.mov (.tmp 20)), none⟩])
 (.seq (.reg [⟨(some 21), .op (.mov (.tmp 0)), none⟩,
   ⟨(some 22), .op (.bin .and (.tmp 21) (.const (.int .u64 63))), none⟩,
   ⟨(some 23), .op (.mov (.tmp 1)), none⟩,
   ⟨(some 24), .op (.bin .and (.tmp 23) (.const (.int .u64 63))), none⟩,
   ⟨(some 25), .op (.mov (.tmp 2)), none⟩,
   ⟨(some 26), .op (.bin .and (.tmp 25) (.const (.int .u64 63))), none⟩,
   ⟨(some 8), .op (.mov (.tmp 22)), none⟩,
   ⟨(some 9), .op (.mov (.tmp 24)), none⟩,
   ⟨(some 10), .op (.mov (.tmp 26)), none⟩])
 (.seq (.reg [⟨(some 27), .op (.mov (.tmp 8)), none⟩,
   ⟨(some 28), .op (.mov (.tmp 9)), none⟩,
   ⟨(some 29), .op (.bsl 1 2 [(.int .u64 0), (.int .u64 0)] [(0, (.tmp 27)), (1, (.tmp 28))]), none⟩,
   ⟨(some 30), .call 27 [(.tmp 29)], none⟩,
   ⟨(some 31), .op (.mov (.tmp 8)), none⟩,
   ⟨(some 32), .op (.mov (.tmp 9)), none⟩,
   ⟨(some 33), .call 37 [(.tmp 31), (.tmp 32)], none⟩,
   ⟨(some 11), .op (.mov (.tmp 30)), none⟩,
   ⟨(some 12), .op (.mov (.tmp 33)), none⟩])
 (.seq (.reg [⟨(some 35), .op (.mov (.tmp 7)), none⟩,
   ⟨(some 36), .op (.mov (.tmp 7)), none⟩,
   ⟨(some 37), .op (.mov (.tmp 8)), none⟩,
   ⟨(some 38), .call 35 [(.tmp 36), (.tmp 37)], none⟩,
   ⟨(some 39), .call 29 [(.tmp 35), (.tmp 38)], none⟩,
   ⟨(some 34), .op (.mov (.tmp 39)), none⟩,
   ⟨(some 40), .op (.ext (.tmp 34) 0), none⟩,
   ⟨(some 41), .op (.ext (.tmp 34) 1), none⟩,
   ⟨(some 13), .op (.mov (.tmp 40)), none⟩,
   ⟨(some 14), .op (.mov (.tmp 41)), none⟩])
 (.seq (.seq (.reg [⟨(some 42), .op (.mov (.tmp 8)), none⟩,
   ⟨(some 43), .op (.mov (.tmp 11)), none⟩,
   ⟨(some 44), .call 28 [(.tmp 42), (.tmp 43)], none⟩,
   ⟨(some 45), .op (.un .not (.tmp 44)), none⟩,
   ⟨(some 46), .op (.mov (.tmp 45)), none⟩,
   ⟨(some 47), .op (.mov (.tmp 9)), (some (46, false))⟩,
   ⟨(some 48), .op (.mov (.tmp 11)), (some (46, false))⟩,
   ⟨(some 49), .call 28 [(.tmp 47), (.tmp 48)], (some (46, false))⟩,
   ⟨(some 50), .op (.un .not (.tmp 49)), (some (46, false))⟩,
   ⟨(some 51), .op (.pick (.tmp 46) (.const (.bool true)) (.tmp 50)), none⟩,
   ⟨(some 52), .op (.mov (.tmp 51)), none⟩,
   ⟨(some 53), .op (.mov (.tmp 8)), (some (52, false))⟩,
   ⟨(some 54), .op (.mov (.tmp 10)), (some (52, false))⟩,
   ⟨(some 55), .call 28 [(.tmp 53), (.tmp 54)], (some (52, false))⟩,
   ⟨(some 56), .op (.mov (.tmp 55)), (some (52, false))⟩,
   ⟨(some 57), .op (.mov (.tmp 9)), (some (56, true))⟩,
   ⟨(some 58), .op (.mov (.tmp 10)), (some (56, true))⟩,
   ⟨(some 59), .call 28 [(.tmp 57), (.tmp 58)], (some (56, true))⟩,
   ⟨(some 60), .op (.pick (.tmp 56) (.tmp 59) (.const (.bool false))), (some (52, false))⟩,
   ⟨(some 61), .op (.mov (.tmp 60)), (some (52, false))⟩,
   ⟨(some 62), .op (.mov (.tmp 11)), (some (61, true))⟩,
   ⟨(some 63), .op (.mov (.tmp 10)), (some (61, true))⟩,
   ⟨(some 64), .call 28 [(.tmp 62), (.tmp 63)], (some (61, true))⟩,
   ⟨(some 65), .op (.un .not (.tmp 64)), (some (61, true))⟩,
   ⟨(some 66), .op (.pick (.tmp 61) (.tmp 65) (.const (.bool false))), (some (52, false))⟩,
   ⟨(some 67), .op (.pick (.tmp 52) (.const (.bool true)) (.tmp 66)), none⟩,
   ⟨(some 68), .op (.mov (.tmp 67)), none⟩,
   ⟨(some 69), .op (.mov (.tmp 12)), (some (68, false))⟩,
   ⟨(some 70), .op (.mov (.tmp 8)), (some (68, false))⟩,
   ⟨(some 71), .call 28 [(.tmp 69), (.tmp 70)], (some (68, false))⟩,
   ⟨(some 72), .op (.un .not (.tmp 71)), (some (68, false))⟩,
   ⟨(some 73), .op (.pick (.tmp 68) (.const (.bool true)) (.tmp 72)), none⟩,
   ⟨(some 74), .op (.mov (.tmp 73)), none⟩,
   ⟨(some 75), .op (.mov (.tmp 12)), (some (74, false))⟩,
   ⟨(some 76), .op (.mov (.tmp 9)), (some (74, false))⟩,
   ⟨(some 77), .call 28 [(.tmp 75), (.tmp 76)], (some (74, false))⟩,
   ⟨(some 78), .op (.un .not (.tmp 77)), (some (74, false))⟩,
   ⟨(some 79), .op (.pick (.tmp 74) (.const (.bool true)) (.tmp 78)), none⟩,
   ⟨(some 80), .op (.mov (.tmp 79)), none⟩,
   ⟨(some 81), .op (.mov (.tmp 10)), (some (80, false))⟩,
   ⟨(some 82), .op (.mov (.tmp 8)), (some (80, false))⟩,
   ⟨(some 83), .call 28 [(.tmp 81), (.tmp 82)], (some (80, false))⟩,
   ⟨(some 84), .op (.mov (.tmp 83)), (some (80, false))⟩,
   ⟨(some 85), .op (.mov (.tmp 10)), (some (84, true))⟩,
   ⟨(some 86), .op (.mov (.tmp 9)), (some (84, true))⟩,
   ⟨(some 87), .call 28 [(.tmp 85), (.tmp 86)], (some (84, true))⟩,
   ⟨(some 88), .op (.pick (.tmp 84) (.tmp 87) (.const (.bool false))), (some (80, false))⟩,
   ⟨(some 89), .op (.mov (.tmp 88)), (some (80, false))⟩,
   ⟨(some 90), .op (.mov (.tmp 10)), (some (89, true))⟩,
   ⟨(some 91), .op (.mov (.tmp 12)), (some (89, true))⟩,
   ⟨(some 92), .call 28 [(.tmp 90), (.tmp 91)], (some (89, true))⟩,
   ⟨(some 93), .op (.un .not (.tmp 92)), (some (89, true))⟩,
   ⟨(some 94), .op (.pick (.tmp 89) (.tmp 93) (.const (.bool false))), (some (80, false))⟩,
   ⟨(some 95), .op (.pick (.tmp 80) (.const (.bool true)) (.tmp 94)), none⟩,
   ⟨(some 96), .op (.mov (.tmp 95)), none⟩,
   ⟨(some 97), .op (.mov (.tmp 14)), (some (96, false))⟩,
   ⟨(some 98), .op (.un .not (.tmp 97)), (some (96, false))⟩,
   ⟨(some 99), .op (.pick (.tmp 96) (.const (.bool true)) (.tmp 98)), none⟩,
   ⟨(some 100), .op (.mov (.tmp 99)), none⟩,
   ⟨(some 101), .op (.mov (.tmp 13)), (some (100, false))⟩,
   ⟨(some 102), .op (.mov (.tmp 8)), (some (100, false))⟩,
   ⟨(some 103), .op (.bin .neq (.tmp 101) (.tmp 102)), (some (100, false))⟩,
   ⟨(some 104), .op (.pick (.tmp 100) (.const (.bool true)) (.tmp 103)), none⟩])
 (.cond (.tmp 104) (.seq (.reg [⟨(some 6), .op (.mov (.const (.bool false))), none⟩])
  (.ret (mk 145 [6])))
 .skip))
 (.seq (.reg [⟨(some 105), .op (.mov (.tmp 7)), none⟩,
   ⟨(some 106), .op (.mov (.tmp 8)), none⟩,
   ⟨(some 107), .call 40 [(.tmp 105), (.tmp 106)], none⟩,
   ⟨(some 15), .op (.mov (.tmp 107)), none⟩])
 (.seq (.reg [⟨(some 16), .op (.mov (.const (.int .i64 0))), none⟩])
 (.seq (.seq (.reg [⟨(some 17), .op (.mov (.const (.int .u64 0))), none⟩])
 (.block 0 (.loop c10_m0 c10_b0)))
 (.seq (.reg [⟨(some 129), .op (.mov (.tmp 16)), none⟩,
   ⟨(some 130), .op (.mov (.tmp 15)), none⟩,
   ⟨(some 131), .op (.lenv (.tmp 130)), none⟩,
   ⟨(some 132), .op (.bin .eql (.tmp 129) (.tmp 131)), none⟩,
   ⟨(some 133), .op (.mov (.tmp 132)), none⟩,
   ⟨(some 134), .op (.mov (.tmp 8)), (some (133, true))⟩,
   ⟨(some 135), .op (.mov (.tmp 9)), (some (133, true))⟩,
   ⟨(some 136), .op (.mov (.tmp 10)), (some (133, true))⟩,
   ⟨(some 137), .op (.bsl 1 3 [(.int .u64 0), (.int .u64 0), (.int .u64 0)] [(0, (.tmp 134)), (1, (.tmp 135)), (2, (.tmp 136))]), (some (133, true))⟩,
   ⟨(some 138), .call 27 [(.tmp 137)], (some (133, true))⟩,
   ⟨(some 139), .op (.mov (.tmp 10)), (some (133, true))⟩,
   ⟨(some 140), .op (.mov (.tmp 11)), (some (133, true))⟩,
   ⟨(some 141), .op (.bsl 1 2 [(.int .u64 0), (.int .u64 0)] [(0, (.tmp 139)), (1, (.tmp 140))]), (some (133, true))⟩,
   ⟨(some 142), .call 27 [(.tmp 141)], (some (133, true))⟩,
   ⟨(some 143), .op (.bin .eql (.tmp 138) (.tmp 142)), (some (133, true))⟩,
   ⟨(some 144), .op (.pick (.tmp 133) (.tmp 143) (.const (.bool false))), none⟩,
   ⟨(some 6), .op (.mov (.tmp 144)), none⟩])
 (.ret (mk 145 [6])))))))))))))⟩
theorem ok10 : FnOK Tryd.prog 10 c10 := ⟨Tryd.f10, _, Tryd.func10, by kernel_rfl, rfl, by kernel_rfl, by kernel_rfl, by kernel_rfl⟩

/-- sizar/sizarlaw17.SigPlain. -/
def c11_m0 : List Bool := (mk 41 [0, 1, 5, 6])
abbrev c11_f0 (v0 v1 v5 v6 : AV) : List AV := FM 41 [(0, v0), (1, v1), (5, v5), (6, v6)]
def c11_b0 : ACode := (.seq (.seq (.reg [⟨(some 16), .op (.mov (.tmp 6)), none⟩,
   ⟨(some 17), .op (.bin .leq (.tmp 16) (.const (.int .i64 8))), none⟩])
 (.cond (.tmp 17) .skip
 (.exit 0 (mk 41 [0, 1, 5]))))
 (.seq (.block 1 (.seq (.reg [⟨(some 20), .op (.mov (.tmp 0)), none⟩,
    ⟨(some 21), .op (.mov (.tmp 6)), none⟩,
    ⟨(some 22), .call 42 [(.tmp 20), (.tmp 21)], none⟩])
  (.cond (.tmp 22) (.reg [⟨(some 23), .op (.mov (.tmp 5)), none⟩,
     ⟨(some 24), .op (.bin .add (.tmp 23) (.const (.int .i64 1))), none⟩,
     ⟨(some 5), .op (.mov (.tmp 24)), none⟩])
  .skip)))
 (.reg [⟨(some 18), .op (.mov (.tmp 6)), none⟩,
   ⟨(some 19), .op (.bin .add (.tmp 18) (.const (.int .i64 1))), none⟩,
   ⟨(some 6), .op (.mov (.tmp 19)), none⟩])))
def c11 : AFun := ⟨41, [.tmp 4], false, (.seq (.reg [⟨(some 4), .op (.mov (.const (.bool false))), none⟩])
 (.seq (.seq (.reg [⟨(some 7), .call 41 [], none⟩,
   ⟨(some 8), .op (.un .not (.tmp 7)), none⟩])
 (.cond (.tmp 8) (.seq (.reg [⟨(some 4), .op (.mov (.const (.bool false))), none⟩])
  (.ret (mk 41 [4])))
 .skip))
 (.seq (.seq (.reg [⟨(some 9), .op (.mov (.tmp 0)), none⟩,
   ⟨(some 10), .op (.lens (.tmp 9)), none⟩,
   ⟨(some 11), .op (.bin .gtr (.tmp 10) (.const (.int .i64 64))), none⟩])
 (.cond (.tmp 11) (.seq (.reg [⟨(some 12), .op (.mov (.tmp 0)), none⟩,
    ⟨(some 13), .op (.mov (.tmp 1)), none⟩,
    ⟨(some 14), .call 42 [(.tmp 12), (.tmp 13)], none⟩,
    ⟨(some 15), .op (.un .not (.tmp 14)), none⟩,
    ⟨(some 4), .op (.mov (.tmp 15)), none⟩])
  (.ret (mk 41 [4])))
 .skip))
 (.seq (.reg [⟨(some 5), .op (.mov (.const (.int .i64 0))), none⟩])
 (.seq (.seq (.reg [⟨(some 6), .op (.mov (.const (.int .i64 0))), none⟩])
 (.block 0 (.loop c11_m0 c11_b0)))
 (.seq (.reg [⟨(some 25), .op (.mov (.tmp 5)), none⟩,
   ⟨(some 26), .op (.bin .leq (.tmp 25) (.const (.int .i64 1))), none⟩,
   ⟨(some 27), .op (.mov (.tmp 26)), none⟩,
   ⟨(some 28), .op (.mov (.tmp 1)), (some (27, true))⟩,
   ⟨(some 29), .op (.bin .geq (.tmp 28) (.const (.int .i64 0))), (some (27, true))⟩,
   ⟨(some 30), .op (.mov (.tmp 29)), (some (27, true))⟩,
   ⟨(some 31), .op (.mov (.tmp 1)), (some (30, true))⟩,
   ⟨(some 32), .op (.bin .leq (.tmp 31) (.const (.int .i64 8))), (some (30, true))⟩,
   ⟨(some 33), .op (.pick (.tmp 30) (.tmp 32) (.const (.bool false))), (some (27, true))⟩,
   ⟨(some 34), .op (.mov (.tmp 33)), (some (27, true))⟩,
   ⟨(some 35), .op (.mov (.tmp 0)), (some (34, false))⟩,
   ⟨(some 36), .op (.mov (.tmp 1)), (some (34, false))⟩,
   ⟨(some 37), .call 42 [(.tmp 35), (.tmp 36)], (some (34, false))⟩,
   ⟨(some 38), .op (.un .not (.tmp 37)), (some (34, false))⟩,
   ⟨(some 39), .op (.pick (.tmp 34) (.const (.bool true)) (.tmp 38)), (some (27, true))⟩,
   ⟨(some 40), .op (.pick (.tmp 27) (.tmp 39) (.const (.bool false))), none⟩,
   ⟨(some 4), .op (.mov (.tmp 40)), none⟩])
 (.ret (mk 41 [4]))))))))⟩
theorem ok11 : FnOK Tryd.prog 11 c11 := ⟨Tryd.f11, _, Tryd.func11, by kernel_rfl, rfl, by kernel_rfl, by kernel_rfl, by kernel_rfl⟩

/-- sizar/sizarlaw17.SigFinds. -/
def c12_m0 : List Bool := (mk 143 [0, 1, 2, 7, 9, 10, 13, 14])
abbrev c12_f0 (v0 v1 v2 v7 v9 v10 v13 v14 : AV) : List AV := FM 143 [(0, v0), (1, v1), (2, v2), (7, v7), (9, v9), (10, v10), (13, v13), (14, v14)]
def c12_b0 : ACode := (.seq (.seq (.reg [⟨(some 97), .op (.mov (.tmp 14)), none⟩,
   ⟨(some 98), .op (.mov (.tmp 0)), none⟩,
   ⟨(some 99), .op (.mov (.tmp 10)), none⟩,
   ⟨(some 100), .op (.iad 4 (.tmp 98) (.tmp 99)), none⟩,
   ⟨(some 101), .op (.fad 1 (.tmp 100)), none⟩,
   ⟨(some 102), .op (.ld none (.tmp 101)), none⟩,
   ⟨(some 103), .op (.bin .lss (.tmp 97) (.tmp 102)), none⟩])
 (.cond (.tmp 103) .skip
 (.exit 2 (mk 143 [0, 1, 2, 7, 9, 10, 13]))))
 (.seq (.block 3 (.reg [⟨(some 106), .op (.mov (.tmp 13)), none⟩,
    ⟨(some 107), .op (.mov (.tmp 14)), none⟩,
    ⟨(some 108), .call 22 [(.tmp 107)], none⟩,
    ⟨(some 109), .op (.bsl 4 1 [(.int .i64 0), (.int .i64 0), (.str []), .nils] [(0, (.tmp 108))]), none⟩,
    ⟨(some 110), .op (.app 4 56 (.tmp 106) (.tmp 109)), none⟩,
    ⟨(some 13), .op (.mov (.tmp 110)), none⟩]))
 (.reg [⟨(some 104), .op (.mov (.tmp 14)), none⟩,
   ⟨(some 105), .op (.bin .add (.tmp 104) (.const (.int .i64 1))), none⟩,
   ⟨(some 14), .op (.mov (.tmp 105)), none⟩])))
def c12_m1 : List Bool := (mk 143 [0, 1, 2, 7, 9, 10])
abbrev c12_f1 (v0 v1 v2 v7 v9 v10 : AV) : List AV := FM 143 [(0, v0), (1, v1), (2, v2), (7, v7), (9, v9), (10, v10)]
def c12_b1 : ACode := (.seq (.seq (.reg [⟨(some 34), .op (.mov (.tmp 10)), none⟩,
   ⟨(some 35), .op (.mov (.tmp 0)), none⟩,
   ⟨(some 36), .op (.lenv (.tmp 35)), none⟩,
   ⟨(some 37), .op (.bin .lss (.tmp 34) (.tmp 36)), none⟩])
 (.cond (.tmp 37) .skip
 (.exit 0 (mk 143 [1, 2, 7, 9]))))
 (.seq (.block 1 (.seq (.dreg [⟨(some 41), .op (.mov (.tmp 7)), none⟩,
    ⟨(some 42), .op (.mov (.tmp 0)), none⟩,
    ⟨(some 43), .op (.mov (.tmp 10)), none⟩,
    ⟨(some 44), .op (.iad 4 (.tmp 42) (.tmp 43)), none⟩,
    ⟨(some 45), .op (.fad 0 (.tmp 44)), none⟩,
    ⟨(some 46), .op (.ld none (.tmp 45)), none⟩,
    ⟨(some 47), .op (.mov (.tmp 0)), none⟩,
    ⟨(some 48), .op (.mov (.tmp 10)), none⟩,
    ⟨(some 49), .op (.iad 4 (.tmp 47) (.tmp 48)), none⟩,
    ⟨(some 50), .op (.fad 1 (.tmp 49)), none⟩,
    ⟨(some 51), .op (.ld none (.tmp 50)), none⟩,
    ⟨(some 52), .call 44 [(.tmp 41), (.tmp 46), (.tmp 51)], none⟩,
    ⟨(some 40), .op (.mov (.tmp 52)), none⟩,
    ⟨(some 53), .op (.ext (.tmp 40) 0), none⟩,
    ⟨(some 54), .op (.ext (.tmp 40) 1), none⟩,
    ⟨(some 11), .op (.box (.const (.agg [(.str []), (.int .i64 0), (.int .u64 0), (.bool false)]))), none⟩,
    ⟨none, .op (.st 4 (.tmp 11) (.tmp 53)), none⟩,
    ⟨(some 12), .op (.mov (.tmp 54)), none⟩] [(5, 15), (10, 15)])
  (.seq (.seq (.reg [⟨(some 55), .op (.mov (.tmp 12)), none⟩,
    ⟨(some 56), .op (.un .not (.tmp 55)), none⟩,
    ⟨(some 57), .op (.mov (.tmp 56)), none⟩,
    ⟨(some 58), .op (.ld (some 4) (.tmp 11)), (some (57, false))⟩,
    ⟨(some 59), .op (.mov (.tmp 0)), (some (57, false))⟩,
    ⟨(some 60), .op (.mov (.tmp 10)), (some (57, false))⟩,
    ⟨(some 61), .op (.iad 4 (.tmp 59) (.tmp 60)), (some (57, false))⟩,
    ⟨(some 62), .op (.ld (some 4) (.tmp 61)), (some (57, false))⟩,
    ⟨(some 63), .op (.ceq [2, 1, 1, 0] true (.tmp 58) (.tmp 62)), (some (57, false))⟩,
    ⟨(some 64), .op (.pick (.tmp 57) (.const (.bool true)) (.tmp 63)), none⟩,
    ⟨(some 65), .op (.mov (.tmp 64)), none⟩,
    ⟨(some 66), .op (.mov (.tmp 0)), (some (65, false))⟩,
    ⟨(some 67), .op (.mov (.tmp 10)), (some (65, false))⟩,
    ⟨(some 68), .op (.iad 4 (.tmp 66) (.tmp 67)), (some (65, false))⟩,
    ⟨(some 69), .op (.fad 0 (.tmp 68)), (some (65, false))⟩,
    ⟨(some 70), .op (.ld none (.tmp 69)), (some (65, false))⟩,
    ⟨(some 71), .op (.mov (.tmp 0)), (some (65, false))⟩,
    ⟨(some 72), .op (.mov (.tmp 10)), (some (65, false))⟩,
    ⟨(some 73), .op (.iad 4 (.tmp 71) (.tmp 72)), (some (65, false))⟩,
    ⟨(some 74), .op (.fad 1 (.tmp 73)), (some (65, false))⟩,
    ⟨(some 75), .op (.ld none (.tmp 74)), (some (65, false))⟩,
    ⟨(some 76), .call 42 [(.tmp 70), (.tmp 75)], (some (65, false))⟩,
    ⟨(some 77), .op (.pick (.tmp 65) (.const (.bool true)) (.tmp 76)), none⟩])
  (.cond (.tmp 77) (.seq (.reg [⟨(some 6), .op (.mov (.const (.bool false))), none⟩])
   (.ret (mk 143 [6])))
  .skip))
  (.seq (.reg [⟨(some 78), .op (.mov (.tmp 9)), none⟩,
    ⟨(some 79), .op (.mov (.tmp 78)), none⟩,
    ⟨(some 80), .op (.mov (.tmp 0)), (some (79, false))⟩,
    ⟨(some 81), .op (.mov (.tmp 10)), (some (79, false))⟩,
    ⟨(some 82), .op (.iad 4 (.tmp 80) (.tmp 81)), (some (79, false))⟩,
    ⟨(some 83), .op (.fad 0 (.tmp 82)), (some (79, false))⟩,
    ⟨(some 84), .op (.ld none (.tmp 83)), (some (79, false))⟩,
    ⟨(some 85), .op (.mov (.tmp 1)), (some (79, false))⟩,
    ⟨(some 86), .op (.bin .eql (.tmp 84) (.tmp 85)), (some (79, false))⟩,
    ⟨(some 87), .op (.mov (.tmp 86)), (some (79, false))⟩,
    ⟨(some 88), .op (.mov (.tmp 0)), (some (87, true))⟩,
    ⟨(some 89), .op (.mov (.tmp 10)), (some (87, true))⟩,
    ⟨(some 90), .op (.iad 4 (.tmp 88) (.tmp 89)), (some (87, true))⟩,
    ⟨(some 91), .op (.fad 1 (.tmp 90)), (some (87, true))⟩,
    ⟨(some 92), .op (.ld none (.tmp 91)), (some (87, true))⟩,
    ⟨(some 93), .op (.mov (.tmp 2)), (some (87, true))⟩,
    ⟨(some 94), .op (.bin .eql (.tmp 92) (.tmp 93)), (some (87, true))⟩,
    ⟨(some 95), .op (.pick (.tmp 87) (.tmp 94) (.const (.bool false))), (some (79, false))⟩,
    ⟨(some 96), .op (.pick (.tmp 79) (.const (.bool true)) (.tmp 95)), none⟩,
    ⟨(some 9), .op (.mov (.tmp 96)), none⟩])
  (.seq (.reg [⟨(some 13), .op (.mov (.const .nils)), none⟩])
  (.seq (.seq (.reg [⟨(some 14), .op (.mov (.const (.int .i64 0))), none⟩])
  (.block 2 (.loop c12_m0 c12_b0)))
  (.seq (.reg [⟨(some 112), .op (.mov (.tmp 7)), none⟩,
    ⟨(some 113), .op (.mov (.tmp 0)), none⟩,
    ⟨(some 114), .op (.mov (.tmp 10)), none⟩,
    ⟨(some 115), .op (.iad 4 (.tmp 113) (.tmp 114)), none⟩,
    ⟨(some 116), .op (.fad 0 (.tmp 115)), none⟩,
    ⟨(some 117), .op (.ld none (.tmp 116)), none⟩,
    ⟨(some 118), .op (.mov (.tmp 13)), none⟩,
    ⟨(some 119), .call 21 [(.tmp 117), (.tmp 118)], none⟩,
    ⟨(some 120), .call 45 [(.tmp 112), (.tmp 119)], none⟩,
    ⟨(some 111), .op (.mov (.tmp 120)), none⟩,
    ⟨(some 121), .op (.ext (.tmp 111) 0), none⟩,
    ⟨(some 122), .op (.ext (.tmp 111) 1), none⟩,
    ⟨(some 15), .op (.box (.const (.agg [(.str []), (.int .i64 0), (.int .u64 0), (.bool false)]))), none⟩,
    ⟨none, .op (.st 4 (.tmp 15) (.tmp 121)), none⟩,
    ⟨(some 16), .op (.mov (.tmp 122)), none⟩])
  (.seq (.reg [⟨(some 123), .op (.mov (.tmp 16)), none⟩,
    ⟨(some 124), .op (.bin .neq (.tmp 123) (.const (.int .i64 0))), none⟩,
    ⟨(some 125), .op (.mov (.tmp 124)), none⟩,
    ⟨(some 126), .op (.ld (some 4) (.tmp 15)), (some (125, false))⟩,
    ⟨(some 127), .op (.mov (.tmp 0)), (some (125, false))⟩,
    ⟨(some 128), .op (.mov (.tmp 10)), (some (125, false))⟩,
    ⟨(some 129), .op (.iad 4 (.tmp 127) (.tmp 128)), (some (125, false))⟩,
    ⟨(some 130), .op (.ld (some 4) (.tmp 129)), (some (125, false))⟩,
    ⟨(some 131), .op (.ceq [2, 1, 1, 0] true (.tmp 126) (.tmp 130)), (some (125, false))⟩,
    ⟨(some 132), .op (.pick (.tmp 125) (.const (.bool true)) (.tmp 131)), none⟩])
  (.cond (.tmp 132) (.seq (.reg [⟨(some 6), .op (.mov (.const (.bool false))), none⟩])
   (.ret (mk 143 [6])))
  .skip)))))))))
 (.reg [⟨(some 38), .op (.mov (.tmp 10)), none⟩,
   ⟨(some 39), .op (.bin .add (.tmp 38) (.const (.int .i64 1))), none⟩,
   ⟨(some 10), .op (.mov (.tmp 39)), none⟩])))
def c12 : AFun := ⟨143, [.tmp 6], false, (.seq (.reg [⟨(some 6), .op (.mov (.const (.bool false))), none⟩])
 (.seq (.seq (.reg [⟨(some 19), .call 41 [], none⟩,
   ⟨(some 20), .op (.un .not (.tmp 19)), none⟩])
 (.cond (.tmp 20) (.seq (.reg [⟨(some 6), .op (.mov (.const (.bool false))), none⟩])
  (.ret (mk 143 [6])))
 .skip))
 (.seq (.reg [⟨(some 22), .op (.bsl 1 2 [(.str []), (.str [])] [(0, (.const (.str [97]))), (1, (.const (.str [98])))]), none⟩,
   ⟨(some 23), .op (.mov (.tmp 0)), none⟩,
   ⟨(some 24), .call 43 [(.tmp 22), (.tmp 23)], none⟩,
   ⟨(some 21), .op (.mov (.tmp 24)), none⟩,
   ⟨(some 25), .op (.ext (.tmp 21) 0), none⟩,
   ⟨(some 26), .op (.ext (.tmp 21) 1), none⟩,
   ⟨(some 7), .op (.mov (.tmp 25)), none⟩,
   ⟨(some 8), .op (.mov (.tmp 26)), none⟩])
 (.seq (.seq (.reg [⟨(some 27), .op (.mov (.tmp 8)), none⟩,
   ⟨(some 28), .op (.bin .neq (.tmp 27) (.const (.int .i64 0))), none⟩,
   ⟨(some 29), .op (.mov (.tmp 28)), none⟩,
   ⟨(some 30), .op (.mov (.tmp 0)), (some (29, false))⟩,
   ⟨(some 31), .op (.lenv (.tmp 30)), (some (29, false))⟩,
   ⟨(some 32), .op (.bin .gtr (.tmp 31) (.const (.int .i64 32))), (some (29, false))⟩,
   ⟨(some 33), .op (.pick (.tmp 29) (.const (.bool true)) (.tmp 32)), none⟩])
 (.cond (.tmp 33) (.seq (.reg [⟨(some 6), .op (.mov (.const (.bool true))), none⟩])
  (.ret (mk 143 [6])))
 .skip))
 (.seq (.reg [⟨(some 9), .op (.mov (.const (.bool false))), none⟩])
 (.seq (.seq (.reg [⟨(some 10), .op (.mov (.const (.int .i64 0))), none⟩])
 (.block 0 (.loop c12_m1 c12_b1)))
 (.seq (.reg [⟨(some 134), .op (.mov (.tmp 7)), none⟩,
   ⟨(some 135), .op (.mov (.tmp 1)), none⟩,
   ⟨(some 136), .op (.mov (.tmp 2)), none⟩,
   ⟨(some 137), .call 44 [(.tmp 134), (.tmp 135), (.tmp 136)], none⟩,
   ⟨(some 133), .op (.mov (.tmp 137)), none⟩,
   ⟨(some 138), .op (.ext (.tmp 133) 0), none⟩,
   ⟨(some 139), .op (.ext (.tmp 133) 1), none⟩,
   ⟨(some 17), .op (.box (.const (.agg [(.str []), (.int .i64 0), (.int .u64 0), (.bool false)]))), none⟩,
   ⟨none, .op (.st 4 (.tmp 17) (.tmp 138)), none⟩,
   ⟨(some 18), .op (.mov (.tmp 139)), none⟩])
 (.seq (.reg [⟨(some 140), .op (.mov (.tmp 18)), none⟩,
   ⟨(some 141), .op (.mov (.tmp 9)), none⟩,
   ⟨(some 142), .op (.beq false (.tmp 140) (.tmp 141)), none⟩,
   ⟨(some 6), .op (.mov (.tmp 142)), none⟩])
 (.ret (mk 143 [6]))))))))))⟩
theorem ok12 : FnOK Tryd.prog 12 c12 := ⟨Tryd.f12, _, Tryd.func12, by kernel_rfl, rfl, by kernel_rfl, by kernel_rfl, by kernel_rfl⟩

/-- sizar/sizarlaw17.SigKnown. -/
def c13_m0 : List Bool := (mk 231 [3, 5, 7, 9, 11, 13, 15, 16, 19, 21, 23, 25, 27, 28, 29, 30, 31, 32, 33])
abbrev c13_f0 (v3 v5 v7 v9 v11 v13 v15 v16 v19 v21 v23 v25 v27 v28 v29 v30 v31 v32 v33 : AV) : List AV := FM 231 [(3, v3), (5, v5), (7, v7), (9, v9), (11, v11), (13, v13), (15, v15), (16, v16), (19, v19), (21, v21), (23, v23), (25, v25), (27, v27), (28, v28), (29, v29), (30, v30), (31, v31), (32, v32), (33, v33)]
def c13_b0 : ACode := (.seq (.seq (.reg [⟨(some 144), .op (.mov (.tmp 33)), none⟩,
   ⟨(some 145), .op (.bin .lss (.tmp 144) (.const (.int .i64 10))), none⟩])
 (.cond (.tmp 145) .skip
 (.exit 2 (mk 231 [3, 5, 7, 9, 11, 13, 15, 16, 19, 21, 23, 25, 27, 28, 29, 30, 31, 32]))))
 (.seq (.block 3 (.seq (.reg [⟨(some 148), .op (.mov (.tmp 30)), none⟩,
    ⟨(some 149), .op (.mov (.tmp 32)), none⟩,
    ⟨(some 150), .op (.iad 1 (.tmp 148) (.tmp 149)), none⟩,
    ⟨(some 151), .op (.ld none (.tmp 150)), none⟩,
    ⟨(some 152), .op (.mov (.tmp 33)), none⟩,
    ⟨(some 153), .call 42 [(.tmp 151), (.tmp 152)], none⟩])
  (.cond (.tmp 153) (.reg [⟨(some 154), .op (.mov (.tmp 31)), none⟩,
     ⟨(some 155), .op (.bin .add (.tmp 154) (.const (.int .i64 1))), none⟩,
     ⟨(some 31), .op (.mov (.tmp 155)), none⟩])
  .skip)))
 (.reg [⟨(some 146), .op (.mov (.tmp 33)), none⟩,
   ⟨(some 147), .op (.bin .add (.tmp 146) (.const (.int .i64 1))), none⟩,
   ⟨(some 33), .op (.mov (.tmp 147)), none⟩])))
def c13_m1 : List Bool := (mk 231 [3, 5, 7, 9, 11, 13, 15, 16, 19, 21, 23, 25, 27, 28, 29, 30, 31, 32])
abbrev c13_f1 (v3 v5 v7 v9 v11 v13 v15 v16 v19 v21 v23 v25 v27 v28 v29 v30 v31 v32 : AV) : List AV := FM 231 [(3, v3), (5, v5), (7, v7), (9, v9), (11, v11), (13, v13), (15, v15), (16, v16), (19, v19), (21, v21), (23, v23), (25, v25), (27, v27), (28, v28), (29, v29), (30, v30), (31, v31), (32, v32)]
def c13_b1 : ACode := (.seq (.seq (.reg [⟨(some 138), .op (.mov (.tmp 32)), none⟩,
   ⟨(some 139), .op (.mov (.tmp 30)), none⟩,
   ⟨(some 140), .op (.lenv (.tmp 139)), none⟩,
   ⟨(some 141), .op (.bin .lss (.tmp 138) (.tmp 140)), none⟩])
 (.cond (.tmp 141) .skip
 (.exit 0 (mk 231 [3, 5, 7, 9, 11, 13, 15, 16, 19, 21, 23, 25, 27, 28, 29, 30, 31]))))
 (.seq (.block 1 (.seq (.reg [⟨(some 33), .op (.mov (.const (.int .i64 (-1)))), none⟩])
  (.block 2 (.loop c13_m0 c13_b0))))
 (.reg [⟨(some 142), .op (.mov (.tmp 32)), none⟩,
   ⟨(some 143), .op (.bin .add (.tmp 142) (.const (.int .i64 1))), none⟩,
   ⟨(some 32), .op (.mov (.tmp 143)), none⟩])))
def c13 : AFun := ⟨231, [.tmp 0], false, (.seq (.reg [⟨(some 0), .op (.mov (.const (.bool false))), none⟩])
 (.seq (.seq (.reg [⟨(some 34), .call 41 [], none⟩,
   ⟨(some 35), .op (.un .not (.tmp 34)), none⟩])
 (.cond (.tmp 35) (.seq (.reg [⟨(some 0), .op (.mov (.const (.bool false))), none⟩])
  (.ret (mk 231 [0])))
 .skip))
 (.seq (.reg [⟨(some 36), .op (.bsl 1 1 [(.str [])] [(0, (.const (.str [97])))]), none⟩,
   ⟨(some 1), .op (.mov (.tmp 36)), none⟩])
 (.seq (.reg [⟨(some 38), .call 43 [(.const .nils), (.const .nils)], none⟩,
   ⟨(some 37), .op (.mov (.tmp 38)), none⟩,
   ⟨(some 39), .op (.ext (.tmp 37) 0), none⟩,
   ⟨(some 40), .op (.ext (.tmp 37) 1), none⟩,
   ⟨(some 2), .op (.mov (.tmp 39)), none⟩,
   ⟨(some 3), .op (.mov (.tmp 40)), none⟩])
 (.seq (.reg [⟨(some 42), .op (.mov (.tmp 1)), none⟩,
   ⟨(some 43), .op (.bld [(.str []), (.int .i64 0), (.int .u64 0), (.bool false)] [(0, 1, (.const (.str [112]))), (1, 1, (.const (.int .i64 9)))]), none⟩,
   ⟨(some 44), .op (.bsl 4 1 [(.str []), (.int .i64 0), (.int .u64 0), (.bool false)] [(0, (.tmp 43))]), none⟩,
   ⟨(some 45), .call 43 [(.tmp 42), (.tmp 44)], none⟩,
   ⟨(some 41), .op (.mov (.tmp 45)), none⟩,
   ⟨(some 46), .op (.ext (.tmp 41) 0), none⟩,
   ⟨(some 47), .op (.ext (.tmp 41) 1), none⟩,
   ⟨(some 4), .op (.mov (.tmp 46)), none⟩,
   ⟨(some 5), .op (.mov (.tmp 47)), none⟩])
 (.seq (.reg [⟨(some 49), .op (.mov (.tmp 1)), none⟩,
   ⟨(some 50), .op (.bld [(.str []), (.int .i64 0), (.int .u64 0), (.bool false)] [(0, 1, (.const (.str [112]))), (2, 1, (.const (.int .u64 2)))]), none⟩,
   ⟨(some 51), .op (.bsl 4 1 [(.str []), (.int .i64 0), (.int .u64 0), (.bool false)] [(0, (.tmp 50))]), none⟩,
   ⟨(some 52), .call 43 [(.tmp 49), (.tmp 51)], none⟩,
   ⟨(some 48), .op (.mov (.tmp 52)), none⟩,
   ⟨(some 53), .op (.ext (.tmp 48) 0), none⟩,
   ⟨(some 54), .op (.ext (.tmp 48) 1), none⟩,
   ⟨(some 6), .op (.mov (.tmp 53)), none⟩,
   ⟨(some 7), .op (.mov (.tmp 54)), none⟩])
 (.seq (.reg [⟨(some 56), .op (.mov (.tmp 1)), none⟩,
   ⟨(some 57), .op (.bld [(.str []), (.int .i64 0), (.int .u64 0), (.bool false)] [(0, 1, (.const (.str [105, 115]))), (1, 1, (.const (.int .i64 2)))]), none⟩,
   ⟨(some 58), .op (.bsl 4 1 [(.str []), (.int .i64 0), (.int .u64 0), (.bool false)] [(0, (.tmp 57))]), none⟩,
   ⟨(some 59), .call 43 [(.tmp 56), (.tmp 58)], none⟩,
   ⟨(some 55), .op (.mov (.tmp 59)), none⟩,
   ⟨(some 60), .op (.ext (.tmp 55) 0), none⟩,
   ⟨(some 61), .op (.ext (.tmp 55) 1), none⟩,
   ⟨(some 8), .op (.mov (.tmp 60)), none⟩,
   ⟨(some 9), .op (.mov (.tmp 61)), none⟩])
 (.seq (.reg [⟨(some 63), .op (.mov (.tmp 1)), none⟩,
   ⟨(some 64), .op (.bld [(.str []), (.int .i64 0), (.int .u64 0), (.bool false)] [(0, 1, (.const (.str [112])))]), none⟩,
   ⟨(some 65), .op (.bld [(.str []), (.int .i64 0), (.int .u64 0), (.bool false)] [(0, 1, (.const (.str [112])))]), none⟩,
   ⟨(some 66), .op (.bsl 4 2 [(.str []), (.int .i64 0), (.int .u64 0), (.bool false), (.str []), (.int .i64 0), (.int .u64 0), (.bool false)] [(0, (.tmp 64)), (1, (.tmp 65))]), none⟩,
   ⟨(some 67), .call 43 [(.tmp 63), (.tmp 66)], none⟩,
   ⟨(some 62), .op (.mov (.tmp 67)), none⟩,
   ⟨(some 68), .op (.ext (.tmp 62) 0), none⟩,
   ⟨(some 69), .op (.ext (.tmp 62) 1), none⟩,
   ⟨(some 10), .op (.mov (.tmp 68)), none⟩,
   ⟨(some 11), .op (.mov (.tmp 69)), none⟩])
 (.seq (.reg [⟨(some 71), .op (.mov (.tmp 1)), none⟩,
   ⟨(some 72), .op (.mks 40 [(.str []), (.int .i64 0), (.int .u64 0), (.bool false)] (.const (.int .i64 33)) (.const (.int .i64 33))), none⟩,
   ⟨(some 73), .call 43 [(.tmp 71), (.tmp 72)], none⟩,
   ⟨(some 70), .op (.mov (.tmp 73)), none⟩,
   ⟨(some 74), .op (.ext (.tmp 70) 0), none⟩,
   ⟨(some 75), .op (.ext (.tmp 70) 1), none⟩,
   ⟨(some 12), .op (.mov (.tmp 74)), none⟩,
   ⟨(some 13), .op (.mov (.tmp 75)), none⟩])
 (.seq (.reg [⟨(some 77), .op (.mov (.tmp 1)), none⟩,
   ⟨(some 78), .op (.bld [(.str []), (.int .i64 0), (.int .u64 0), (.bool false)] [(0, 1, (.const (.str [105, 115]))), (1, 1, (.const (.int .i64 2)))]), none⟩,
   ⟨(some 79), .op (.bld [(.str []), (.int .i64 0), (.int .u64 0), (.bool false)] [(0, 1, (.const (.str [112]))), (1, 1, (.const (.int .i64 (-1))))]), none⟩,
   ⟨(some 80), .op (.bsl 4 2 [(.str []), (.int .i64 0), (.int .u64 0), (.bool false), (.str []), (.int .i64 0), (.int .u64 0), (.bool false)] [(0, (.tmp 78)), (1, (.tmp 79))]), none⟩,
   ⟨(some 81), .call 43 [(.tmp 77), (.tmp 80)], none⟩,
   ⟨(some 76), .op (.mov (.tmp 81)), none⟩,
   ⟨(some 82), .op (.ext (.tmp 76) 0), none⟩,
   ⟨(some 83), .op (.ext (.tmp 76) 1), none⟩,
   ⟨(some 14), .op (.mov (.tmp 82)), none⟩,
   ⟨(some 15), .op (.mov (.tmp 83)), none⟩])
 (.seq (.reg [⟨(some 85), .op (.mov (.tmp 1)), none⟩,
   ⟨(some 86), .op (.bld [(.str []), (.int .i64 0), (.int .u64 0), (.bool false)] [(0, 1, (.const (.str [112]))), (1, 1, (.const (.int .i64 1)))]), none⟩,
   ⟨(some 87), .op (.bld [(.str []), (.int .i64 0), (.int .u64 0), (.bool false)] [(0, 1, (.const (.str [112])))]), none⟩,
   ⟨(some 88), .op (.bld [(.str []), (.int .i64 0), (.int .u64 0), (.bool false)] [(0, 1, (.const (.str [105, 115]))), (1, 1, (.const (.int .i64 3)))]), none⟩,
   ⟨(some 89), .op (.bsl 4 3 [(.str []), (.int .i64 0), (.int .u64 0), (.bool false), (.str []), (.int .i64 0), (.int .u64 0), (.bool false), (.str []), (.int .i64 0), (.int .u64 0), (.bool false)] [(0, (.tmp 86)), (1, (.tmp 87)), (2, (.tmp 88))]), none⟩,
   ⟨(some 90), .call 43 [(.tmp 85), (.tmp 89)], none⟩,
   ⟨(some 84), .op (.mov (.tmp 90)), none⟩,
   ⟨(some 91), .op (.ext (.tmp 84) 0), none⟩,
   ⟨(some 92), .op (.ext (.tmp 84) 1), none⟩,
   ⟨(some 16), .op (.mov (.tmp 91)), none⟩,
   ⟨(some 17), .op (.mov (.tmp 92)), none⟩])
 (.seq (.seq (.reg [⟨(some 93), .op (.mov (.tmp 17)), none⟩,
   ⟨(some 94), .op (.bin .neq (.tmp 93) (.const (.int .i64 0))), none⟩,
   ⟨(some 95), .op (.mov (.tmp 94)), none⟩,
   ⟨(some 96), .op (.mov (.tmp 16)), (some (95, false))⟩,
   ⟨(some 97), .op (.peq 0 false (.tmp 96) (.const .nilp)), (some (95, false))⟩,
   ⟨(some 98), .op (.pick (.tmp 95) (.const (.bool true)) (.tmp 97)), none⟩])
 (.cond (.tmp 98) (.seq (.reg [⟨(some 0), .op (.mov (.const (.bool false))), none⟩])
  (.ret (mk 231 [0])))
 .skip))
 (.seq (.reg [⟨(some 100), .op (.mov (.tmp 16)), none⟩,
   ⟨(some 101), .call 25 [(.const (.int .i64 0))], none⟩,
   ⟨(some 102), .call 45 [(.tmp 100), (.tmp 101)], none⟩,
   ⟨(some 99), .op (.mov (.tmp 102)), none⟩,
   ⟨(some 103), .op (.ext (.tmp 99) 0), none⟩,
   ⟨(some 104), .op (.ext (.tmp 99) 1), none⟩,
   ⟨(some 18), .op (.box (.const (.agg [(.str []), (.int .i64 0), (.int .u64 0), (.bool false)]))), none⟩,
   ⟨none, .op (.st 4 (.tmp 18) (.tmp 103)), none⟩,
   ⟨(some 19), .op (.mov (.tmp 104)), none⟩])
 (.seq (.reg [⟨(some 106), .op (.mov (.tmp 16)), none⟩,
   ⟨(some 107), .call 22 [(.const (.int .i64 0))], none⟩,
   ⟨(some 108), .call 45 [(.tmp 106), (.tmp 107)], none⟩,
   ⟨(some 105), .op (.mov (.tmp 108)), none⟩,
   ⟨(some 109), .op (.ext (.tmp 105) 0), none⟩,
   ⟨(some 110), .op (.ext (.tmp 105) 1), none⟩,
   ⟨(some 20), .op (.box (.const (.agg [(.str []), (.int .i64 0), (.int .u64 0), (.bool false)]))), none⟩,
   ⟨none, .op (.st 4 (.tmp 20) (.tmp 109)), none⟩,
   ⟨(some 21), .op (.mov (.tmp 110)), none⟩])
 (.seq (.reg [⟨(some 112), .op (.mov (.tmp 16)), none⟩,
   ⟨(some 113), .call 24 [(.const (.str [116, 114, 117, 101]))], none⟩,
   ⟨(some 114), .call 45 [(.tmp 112), (.tmp 113)], none⟩,
   ⟨(some 111), .op (.mov (.tmp 114)), none⟩,
   ⟨(some 115), .op (.ext (.tmp 111) 0), none⟩,
   ⟨(some 116), .op (.ext (.tmp 111) 1), none⟩,
   ⟨(some 22), .op (.box (.const (.agg [(.str []), (.int .i64 0), (.int .u64 0), (.bool false)]))), none⟩,
   ⟨none, .op (.st 4 (.tmp 22) (.tmp 115)), none⟩,
   ⟨(some 23), .op (.mov (.tmp 116)), none⟩])
 (.seq (.reg [⟨(some 118), .op (.mov (.tmp 16)), none⟩,
   ⟨(some 119), .call 24 [(.const (.str [113]))], none⟩,
   ⟨(some 120), .call 45 [(.tmp 118), (.tmp 119)], none⟩,
   ⟨(some 117), .op (.mov (.tmp 120)), none⟩,
   ⟨(some 121), .op (.ext (.tmp 117) 0), none⟩,
   ⟨(some 122), .op (.ext (.tmp 117) 1), none⟩,
   ⟨(some 24), .op (.box (.const (.agg [(.str []), (.int .i64 0), (.int .u64 0), (.bool false)]))), none⟩,
   ⟨none, .op (.st 4 (.tmp 24) (.tmp 121)), none⟩,
   ⟨(some 25), .op (.mov (.tmp 122)), none⟩])
 (.seq (.reg [⟨(some 124), .op (.mov (.tmp 16)), none⟩,
   ⟨(some 125), .op (.bld [(.int .i64 0), (.int .i64 0), (.str []), .nils] [(0, 1, (.const (.int .i64 4)))]), none⟩,
   ⟨(some 126), .call 45 [(.tmp 124), (.tmp 125)], none⟩,
   ⟨(some 123), .op (.mov (.tmp 126)), none⟩,
   ⟨(some 127), .op (.ext (.tmp 123) 0), none⟩,
   ⟨(some 128), .op (.ext (.tmp 123) 1), none⟩,
   ⟨(some 26), .op (.box (.const (.agg [(.str []), (.int .i64 0), (.int .u64 0), (.bool false)]))), none⟩,
   ⟨none, .op (.st 4 (.tmp 26) (.tmp 127)), none⟩,
   ⟨(some 27), .op (.mov (.tmp 128)), none⟩])
 (.seq (.reg [⟨(some 130), .op (.mov (.tmp 16)), none⟩,
   ⟨(some 131), .call 25 [(.const (.int .i64 0))], none⟩,
   ⟨(some 132), .op (.bsl 4 1 [(.int .i64 0), (.int .i64 0), (.str []), .nils] [(0, (.tmp 131))]), none⟩,
   ⟨(some 133), .call 21 [(.const (.str [112])), (.tmp 132)], none⟩,
   ⟨(some 134), .call 45 [(.tmp 130), (.tmp 133)], none⟩,
   ⟨(some 129), .op (.mov (.tmp 134)), none⟩,
   ⟨(some 135), .op (.ext (.tmp 129) 0), none⟩,
   ⟨(some 136), .op (.ext (.tmp 129) 1), none⟩,
   ⟨(some 28), .op (.box (.const (.agg [(.str []), (.int .i64 0), (.int .u64 0), (.bool false)]))), none⟩,
   ⟨none, .op (.st 4 (.tmp 28) (.tmp 135)), none⟩,
   ⟨(some 29), .op (.mov (.tmp 136)), none⟩])
 (.seq (.reg [⟨(some 137), .op (.bsl 1 30 [(.str []), (.str []), (.str []), (.str []), (.str []), (.str []), (.str []), (.str []), (.str []), (.str []), (.str []), (.str []), (.str []), (.str []), (.str []), (.str []), (.str []), (.str []), (.str []), (.str []), (.str []), (.str []), (.str []), (.str []), (.str []), (.str []), (.str []), (.str []), (.str []), (.str [])] [(0, (.const (.str [116, 114, 117, 101]))), (1, (.const (.str [102, 97, 105, 108]))), (2, (.const (.str [33]))), (3, (.const (.str [44]))), (4, (.const (.str [59]))), (5, (.const (.str [45, 62]))), (6, (.const (.str [92, 43]))), (7, (.const (.str [99, 97, 108, 108]))), (8, (.const (.str [99, 97, 116, 99, 104]))), (9, (.const (.str [116, 104, 114, 111, 119]))), (10, (.const (.str [102, 105, 110, 100, 97, 108, 108]))), (11, (.const (.str [61]))), (12, (.const (.str [92, 61]))), (13, (.const (.str [61, 61]))), (14, (.const (.str [64, 60]))), (15, (.const (.str [118, 97, 114]))), (16, (.const (.str [105, 115]))), (17, (.const (.str [61, 58, 61]))), (18, (.const (.str [102, 117, 110, 99, 116, 111, 114]))), (19, (.const (.str [97, 114, 103]))), (20, (.const (.str [61, 46, 46]))), (21, (.const (.str [99, 111, 112, 121, 95, 116, 101, 114, 109]))), (22, (.const (.str [115, 111, 114, 116]))), (23, (.const (.str [97, 115, 115, 101, 114, 116, 122]))), (24, (.const (.str [114, 101, 116, 114, 97, 99, 116]))), (25, (.const (.str [108, 97, 98, 101, 108]))), (26, (.const (.str [116, 111, 95, 108, 97, 98, 101, 108, 101, 100]))), (27, (.const (.str [117, 110, 108, 97, 98, 101, 108]))), (28, (.const (.str [58, 45]))), (29, (.const (.str [108, 101, 110, 103, 116, 104])))]), none⟩,
   ⟨(some 30), .op (.mov (.tmp 137)), none⟩])
 (.seq (.reg [⟨(some 31), .op (.mov (.const (.int .i64 0))), none⟩])
 (.seq (.seq (.reg [⟨(some 32), .op (.mov (.const (.int .i64 0))), none⟩])
 (.block 0 (.loop c13_m1 c13_b1)))
 (.seq (.reg [⟨(some 156), .op (.mov (.tmp 3)), none⟩,
   ⟨(some 157), .op (.bin .eql (.tmp 156) (.const (.int .i64 1))), none⟩,
   ⟨(some 158), .op (.mov (.tmp 157)), none⟩,
   ⟨(some 159), .op (.mov (.tmp 5)), (some (158, true))⟩,
   ⟨(some 160), .op (.bin .eql (.tmp 159) (.const (.int .i64 1))), (some (158, true))⟩,
   ⟨(some 161), .op (.pick (.tmp 158) (.tmp 160) (.const (.bool false))), none⟩,
   ⟨(some 162), .op (.mov (.tmp 161)), none⟩,
   ⟨(some 163), .op (.mov (.tmp 7)), (some (162, true))⟩,
   ⟨(some 164), .op (.bin .eql (.tmp 163) (.const (.int .i64 1))), (some (162, true))⟩,
   ⟨(some 165), .op (.pick (.tmp 162) (.tmp 164) (.const (.bool false))), none⟩,
   ⟨(some 166), .op (.mov (.tmp 165)), none⟩,
   ⟨(some 167), .op (.mov (.tmp 9)), (some (166, true))⟩,
   ⟨(some 168), .op (.bin .eql (.tmp 167) (.const (.int .i64 8))), (some (166, true))⟩,
   ⟨(some 169), .op (.pick (.tmp 166) (.tmp 168) (.const (.bool false))), none⟩,
   ⟨(some 170), .op (.mov (.tmp 169)), none⟩,
   ⟨(some 171), .op (.mov (.tmp 11)), (some (170, true))⟩,
   ⟨(some 172), .op (.bin .eql (.tmp 171) (.const (.int .i64 14))), (some (170, true))⟩,
   ⟨(some 173), .op (.pick (.tmp 170) (.tmp 172) (.const (.bool false))), none⟩,
   ⟨(some 174), .op (.mov (.tmp 173)), none⟩,
   ⟨(some 175), .op (.mov (.tmp 13)), (some (174, true))⟩,
   ⟨(some 176), .op (.bin .eql (.tmp 175) (.const (.int .i64 1))), (some (174, true))⟩,
   ⟨(some 177), .op (.pick (.tmp 174) (.tmp 176) (.const (.bool false))), none⟩,
   ⟨(some 178), .op (.mov (.tmp 177)), none⟩,
   ⟨(some 179), .op (.mov (.tmp 15)), (some (178, true))⟩,
   ⟨(some 180), .op (.bin .eql (.tmp 179) (.const (.int .i64 1))), (some (178, true))⟩,
   ⟨(some 181), .op (.pick (.tmp 178) (.tmp 180) (.const (.bool false))), none⟩,
   ⟨(some 182), .op (.mov (.tmp 181)), none⟩,
   ⟨(some 183), .op (.mov (.tmp 19)), (some (182, true))⟩,
   ⟨(some 184), .op (.bin .eql (.tmp 183) (.const (.int .i64 6))), (some (182, true))⟩,
   ⟨(some 185), .op (.pick (.tmp 182) (.tmp 184) (.const (.bool false))), none⟩,
   ⟨(some 186), .op (.mov (.tmp 185)), none⟩,
   ⟨(some 187), .op (.mov (.tmp 21)), (some (186, true))⟩,
   ⟨(some 188), .op (.bin .eql (.tmp 187) (.const (.int .i64 5))), (some (186, true))⟩,
   ⟨(some 189), .op (.pick (.tmp 186) (.tmp 188) (.const (.bool false))), none⟩,
   ⟨(some 190), .op (.mov (.tmp 189)), none⟩,
   ⟨(some 191), .op (.mov (.tmp 23)), (some (190, true))⟩,
   ⟨(some 192), .op (.bin .eql (.tmp 191) (.const (.int .i64 8))), (some (190, true))⟩,
   ⟨(some 193), .op (.pick (.tmp 190) (.tmp 192) (.const (.bool false))), none⟩,
   ⟨(some 194), .op (.mov (.tmp 193)), none⟩,
   ⟨(some 195), .op (.mov (.tmp 25)), (some (194, true))⟩,
   ⟨(some 196), .op (.bin .eql (.tmp 195) (.const (.int .i64 7))), (some (194, true))⟩,
   ⟨(some 197), .op (.pick (.tmp 194) (.tmp 196) (.const (.bool false))), none⟩,
   ⟨(some 198), .op (.mov (.tmp 197)), none⟩,
   ⟨(some 199), .op (.mov (.tmp 27)), (some (198, true))⟩,
   ⟨(some 200), .op (.bin .eql (.tmp 199) (.const (.int .i64 1))), (some (198, true))⟩,
   ⟨(some 201), .op (.pick (.tmp 198) (.tmp 200) (.const (.bool false))), none⟩,
   ⟨(some 202), .op (.mov (.tmp 201)), none⟩,
   ⟨(some 203), .op (.mov (.tmp 29)), (some (202, true))⟩,
   ⟨(some 204), .op (.bin .eql (.tmp 203) (.const (.int .i64 0))), (some (202, true))⟩,
   ⟨(some 205), .op (.pick (.tmp 202) (.tmp 204) (.const (.bool false))), none⟩,
   ⟨(some 206), .op (.mov (.tmp 205)), none⟩,
   ⟨(some 207), .op (.fad 1 (.tmp 28)), (some (206, true))⟩,
   ⟨(some 208), .op (.ld none (.tmp 207)), (some (206, true))⟩,
   ⟨(some 209), .op (.bin .eql (.tmp 208) (.const (.int .i64 1))), (some (206, true))⟩,
   ⟨(some 210), .op (.pick (.tmp 206) (.tmp 209) (.const (.bool false))), none⟩,
   ⟨(some 211), .op (.mov (.tmp 210)), none⟩,
   ⟨(some 212), .op (.mov (.tmp 31)), (some (211, true))⟩,
   ⟨(some 213), .op (.mov (.tmp 30)), (some (211, true))⟩,
   ⟨(some 214), .op (.lenv (.tmp 213)), (some (211, true))⟩,
   ⟨(some 215), .op (.bin .eql (.tmp 212) (.tmp 214)), (some (211, true))⟩,
   ⟨(some 216), .op (.pick (.tmp 211) (.tmp 215) (.const (.bool false))), none⟩,
   ⟨(some 217), .op (.mov (.tmp 216)), none⟩,
   ⟨(some 218), .call 42 [(.const (.str [])), (.const (.int .i64 0))], (some (217, true))⟩,
   ⟨(some 219), .op (.un .not (.tmp 218)), (some (217, true))⟩,
   ⟨(some 220), .op (.pick (.tmp 217) (.tmp 219) (.const (.bool false))), none⟩,
   ⟨(some 221), .op (.mov (.tmp 220)), none⟩,
   ⟨(some 222), .call 42 [(.const (.str [116, 114, 117, 101, 32, 102, 97, 105, 108])), (.const (.int .i64 0))], (some (221, true))⟩,
   ⟨(some 223), .op (.un .not (.tmp 222)), (some (221, true))⟩,
   ⟨(some 224), .op (.pick (.tmp 221) (.tmp 223) (.const (.bool false))), none⟩,
   ⟨(some 225), .op (.mov (.tmp 224)), none⟩,
   ⟨(some 226), .op (.mov (.tmp 16)), (some (225, true))⟩,
   ⟨(some 227), .call 46 [(.tmp 226)], (some (225, true))⟩,
   ⟨(some 228), .op (.lenv (.tmp 227)), (some (225, true))⟩,
   ⟨(some 229), .op (.bin .eql (.tmp 228) (.const (.int .i64 1))), (some (225, true))⟩,
   ⟨(some 230), .op (.pick (.tmp 225) (.tmp 229) (.const (.bool false))), none⟩,
   ⟨(some 0), .op (.mov (.tmp 230)), none⟩])
 (.ret (mk 231 [0]))))))))))))))))))))))))⟩
theorem ok13 : FnOK Tryd.prog 13 c13 := ⟨Tryd.f13, _, Tryd.func13, by kernel_rfl, rfl, by kernel_rfl, by kernel_rfl, by kernel_rfl⟩

/-- sizar/sizarlaw24.awake. -/
def c14 : AFun := ⟨40, [.tmp 0], false, (.seq (.reg [⟨(some 0), .op (.mov (.const (.bool false))), none⟩])
 (.seq (.reg [⟨(some 6), .op (.bsl 1 1 [(.str [])] [(0, (.const (.str [97])))]), none⟩,
   ⟨(some 7), .call 15 [(.tmp 6)], none⟩,
   ⟨(some 5), .op (.mov (.tmp 7)), none⟩,
   ⟨(some 8), .op (.ext (.tmp 5) 0), none⟩,
   ⟨(some 9), .op (.ext (.tmp 5) 1), none⟩,
   ⟨(some 1), .op (.mov (.tmp 8)), none⟩,
   ⟨(some 2), .op (.mov (.tmp 9)), none⟩])
 (.seq (.seq (.reg [⟨(some 10), .op (.mov (.tmp 2)), none⟩,
   ⟨(some 11), .op (.bin .neq (.tmp 10) (.const (.int .i64 0))), none⟩,
   ⟨(some 12), .op (.mov (.tmp 11)), none⟩,
   ⟨(some 13), .op (.mov (.tmp 1)), (some (12, false))⟩,
   ⟨(some 14), .op (.peq 0 false (.tmp 13) (.const .nilp)), (some (12, false))⟩,
   ⟨(some 15), .op (.pick (.tmp 12) (.const (.bool true)) (.tmp 14)), none⟩])
 (.cond (.tmp 15) (.seq (.reg [⟨(some 0), .op (.mov (.const (.bool false))), none⟩])
  (.ret (mk 40 [0])))
 .skip))
 (.seq (.reg [⟨(some 17), .op (.mov (.tmp 1)), none⟩,
   ⟨(some 18), .call 24 [(.const (.str [120]))], none⟩,
   ⟨(some 19), .call 17 [(.tmp 17), (.const (.int .u64 1)), (.tmp 18)], none⟩,
   ⟨(some 16), .op (.mov (.tmp 19)), none⟩,
   ⟨(some 20), .op (.ext (.tmp 16) 0), none⟩,
   ⟨(some 21), .op (.ext (.tmp 16) 1), none⟩,
   ⟨(some 3), .op (.box (.const (.agg [(.int .i64 0), (.int .i64 0), (.str []), .nils]))), none⟩,
   ⟨none, .op (.st 4 (.tmp 3) (.tmp 20)), none⟩,
   ⟨(some 4), .op (.mov (.tmp 21)), none⟩])
 (.seq (.dreg [⟨(some 22), .op (.mov (.tmp 4)), none⟩,
   ⟨(some 23), .op (.bin .eql (.tmp 22) (.const (.int .i64 0))), none⟩,
   ⟨(some 24), .op (.mov (.tmp 23)), none⟩,
   ⟨(some 25), .op (.ld (some 4) (.tmp 3)), (some (24, true))⟩,
   ⟨(some 26), .call 22 [(.const (.int .i64 1))], (some (24, true))⟩,
   ⟨(some 27), .op (.bsl 4 1 [(.int .i64 0), (.int .i64 0), (.str []), .nils] [(0, (.tmp 26))]), (some (24, true))⟩,
   ⟨(some 28), .call 21 [(.const (.str [36, 98, 111, 120])), (.tmp 27)], (some (24, true))⟩,
   ⟨(some 29), .call 18 [(.tmp 25), (.tmp 28)], (some (24, true))⟩,
   ⟨(some 30), .op (.pick (.tmp 24) (.tmp 29) (.const (.bool false))), none⟩,
   ⟨(some 31), .op (.mov (.tmp 30)), none⟩,
   ⟨(some 32), .op (.ld (some 4) (.tmp 3)), (some (31, true))⟩,
   ⟨(some 33), .call 19 [(.tmp 32)], (some (31, true))⟩,
   ⟨(some 34), .op (.pick (.tmp 31) (.tmp 33) (.const (.bool false))), none⟩,
   ⟨(some 35), .op (.mov (.tmp 34)), none⟩,
   ⟨(some 36), .op (.mov (.tmp 1)), (some (35, true))⟩,
   ⟨(some 37), .call 20 [(.tmp 36)], (some (35, true))⟩,
   ⟨(some 38), .op (.bin .eql (.tmp 37) (.const (.int .i64 1))), (some (35, true))⟩,
   ⟨(some 39), .op (.pick (.tmp 35) (.tmp 38) (.const (.bool false))), none⟩,
   ⟨(some 0), .op (.mov (.tmp 39)), none⟩] [(3, 4), (3, 5), (3, 6)])
 (.ret (mk 40 [0])))))))⟩
theorem ok14 : FnOK Tryd.prog 14 c14 := ⟨Tryd.f14, _, Tryd.func14, by kernel_rfl, rfl, by kernel_rfl, by kernel_rfl, by kernel_rfl⟩

/-- sizar/box.New. -/
def c15 : AFun := ⟨12, [.tmp 2, .tmp 3], false, (.seq (.reg [⟨(some 2), .op (.mov (.const .nilp)), none⟩,
   ⟨(some 3), .op (.mov (.const (.int .i64 0))), none⟩])
 (.seq (.seq (.reg [⟨(some 4), .op (.mov (.tmp 0)), none⟩,
   ⟨(some 5), .call 32 [(.tmp 4)], none⟩,
   ⟨(some 6), .op (.un .not (.tmp 5)), none⟩])
 (.cond (.tmp 6) (.seq (.reg [⟨(some 2), .op (.mov (.const .nilp)), none⟩,
    ⟨(some 3), .op (.mov (.const (.int .i64 1))), none⟩])
  (.ret (mk 12 [2, 3])))
 .skip))
 (.seq (.reg [⟨(some 7), .op (.bs0), none⟩,
   ⟨(some 8), .op (.mov (.tmp 0)), none⟩,
   ⟨(some 9), .op (.app 1 16 (.tmp 7) (.tmp 8)), none⟩,
   ⟨(some 10), .op (.bld [.nils, .nils] [(0, 1, (.tmp 9))]), none⟩,
   ⟨(some 11), .op (.box (.tmp 10)), none⟩,
   ⟨(some 2), .op (.mov (.tmp 11)), none⟩,
   ⟨(some 3), .op (.mov (.const (.int .i64 0))), none⟩])
 (.ret (mk 12 [2, 3])))))⟩
theorem ok15 : FnOK Tryd.prog 15 c15 := ⟨Tryd.f15, _, Tryd.func15, by kernel_rfl, rfl, by kernel_rfl, by kernel_rfl, by kernel_rfl⟩

/-- sizar/term.Good. -/
def c16 : AFun := ⟨15, [.tmp 2], false, (.seq (.reg [⟨(some 1), .op (.box (.tmp 0)), none⟩,
   ⟨(some 2), .op (.mov (.const (.bool false))), none⟩])
 (.seq (.reg [⟨(some 3), .op (.ld (some 4) (.tmp 1)), none⟩,
   ⟨(some 4), .call 47 [(.tmp 3)], none⟩,
   ⟨(some 5), .op (.bin .leq (.tmp 4) (.const (.int .i64 2000))), none⟩,
   ⟨(some 6), .op (.mov (.tmp 5)), none⟩,
   ⟨(some 7), .op (.ld (some 4) (.tmp 1)), (some (6, true))⟩,
   ⟨(some 8), .call 48 [(.tmp 7)], (some (6, true))⟩,
   ⟨(some 9), .op (.bin .leq (.tmp 8) (.const (.int .i64 64))), (some (6, true))⟩,
   ⟨(some 10), .op (.pick (.tmp 6) (.tmp 9) (.const (.bool false))), none⟩,
   ⟨(some 11), .op (.mov (.tmp 10)), none⟩,
   ⟨(some 12), .op (.ld (some 4) (.tmp 1)), (some (11, true))⟩,
   ⟨(some 13), .call 49 [(.tmp 12), (.const (.fn 50 []))], (some (11, true))⟩,
   ⟨(some 14), .op (.pick (.tmp 11) (.tmp 13) (.const (.bool false))), none⟩,
   ⟨(some 2), .op (.mov (.tmp 14)), none⟩])
 (.ret (mk 15 [2]))))⟩
theorem ok16 : FnOK Tryd.prog 16 c16 := ⟨Tryd.f16, _, Tryd.func16, by kernel_rfl, rfl, by kernel_rfl, by kernel_rfl, by kernel_rfl⟩

/-- (*sizar/box.Boxes).Put. -/
def c17 : AFun := ⟨51, [.cell 6 (some 4), .tmp 7], false, (.seq (.reg [⟨(some 5), .op (.box (.tmp 2)), none⟩,
   ⟨(some 6), .op (.box (.const (.agg [(.int .i64 0), (.int .i64 0), (.str []), .nils]))), none⟩,
   ⟨(some 7), .op (.mov (.const (.int .i64 0))), none⟩])
 (.seq (.block 0 (.seq (.reg [⟨(some 9), .op (.mov (.tmp 0)), none⟩,
    ⟨(some 10), .op (.nck (.tmp 9)), none⟩,
    ⟨(some 11), .op (.fad 0 (.tmp 10)), none⟩,
    ⟨(some 12), .op (.ld none (.tmp 11)), none⟩,
    ⟨(some 13), .op (.mov (.tmp 1)), none⟩,
    ⟨(some 14), .call 33 [(.tmp 12), (.tmp 13)], none⟩,
    ⟨(some 15), .op (.un .not (.tmp 14)), none⟩,
    ⟨(some 16), .op (.mov (.tmp 15)), none⟩,
    ⟨(some 17), .op (.ld (some 4) (.tmp 5)), (some (16, false))⟩,
    ⟨(some 18), .call 16 [(.tmp 17)], (some (16, false))⟩,
    ⟨(some 19), .op (.un .not (.tmp 18)), (some (16, false))⟩,
    ⟨(some 20), .op (.pick (.tmp 16) (.const (.bool true)) (.tmp 19)), none⟩,
    ⟨(some 8), .op (.mov (.tmp 20)), none⟩])
  (.cond (.tmp 8) (.seq (.reg [⟨(some 21), .op (.bld [(.int .i64 0), (.int .i64 0), (.str []), .nils] []), none⟩,
     ⟨none, .op (.st 4 (.tmp 6) (.tmp 21)), none⟩,
     ⟨(some 7), .op (.mov (.const (.int .i64 1))), none⟩])
   (.ret (mk 51 [6, 7])))
  (.seq (.reg [⟨(some 23), .op (.mov (.tmp 0)), none⟩,
     ⟨(some 24), .op (.nck (.tmp 23)), none⟩,
     ⟨(some 25), .op (.fad 1 (.tmp 24)), none⟩,
     ⟨(some 26), .op (.ld none (.tmp 25)), none⟩,
     ⟨(some 27), .op (.lenv (.tmp 26)), none⟩,
     ⟨(some 28), .op (.bin .geq (.tmp 27) (.const (.int .i64 1000))), none⟩,
     ⟨(some 22), .op (.mov (.tmp 28)), none⟩])
   (.cond (.tmp 22) (.seq (.reg [⟨(some 29), .op (.bld [(.int .i64 0), (.int .i64 0), (.str []), .nils] []), none⟩,
      ⟨none, .op (.st 4 (.tmp 6) (.tmp 29)), none⟩,
      ⟨(some 7), .op (.mov (.const (.int .i64 14))), none⟩])
    (.ret (mk 51 [6, 7])))
   .skip)))))
 (.seq (.dreg [⟨(some 30), .op (.mov (.tmp 0)), none⟩,
   ⟨(some 31), .op (.mov (.tmp 0)), none⟩,
   ⟨(some 32), .op (.nck (.tmp 31)), none⟩,
   ⟨(some 33), .op (.fad 1 (.tmp 32)), none⟩,
   ⟨(some 34), .op (.ld none (.tmp 33)), none⟩,
   ⟨(some 35), .op (.mov (.tmp 1)), none⟩,
   ⟨(some 36), .op (.ld (some 4) (.tmp 5)), none⟩,
   ⟨(some 37), .call 51 [(.tmp 36), (.const .nilm)], none⟩,
   ⟨(some 38), .op (.bld [(.int .u64 0), (.int .i64 0), (.int .i64 0), (.str []), .nils] [(0, 1, (.tmp 35)), (1, 4, (.tmp 37))]), none⟩,
   ⟨(some 39), .op (.bsl 5 1 [(.int .u64 0), (.int .i64 0), (.int .i64 0), (.str []), .nils] [(0, (.tmp 38))]), none⟩,
   ⟨(some 40), .op (.app 5 64 (.tmp 34) (.tmp 39)), none⟩,
   ⟨(some 41), .op (.nck (.tmp 30)), none⟩,
   ⟨(some 42), .op (.fad 1 (.tmp 41)), none⟩,
   ⟨none, .op (.st 1 (.tmp 42) (.tmp 40)), none⟩] [(4, 7), (4, 9)])
 (.seq (.reg [⟨(some 43), .op (.mov (.tmp 0)), none⟩,
   ⟨(some 44), .op (.nck (.tmp 43)), none⟩,
   ⟨(some 45), .op (.fad 1 (.tmp 44)), none⟩,
   ⟨(some 46), .op (.ld none (.tmp 45)), none⟩,
   ⟨(some 47), .op (.lenv (.tmp 46)), none⟩,
   ⟨(some 48), .call 22 [(.tmp 47)], none⟩,
   ⟨(some 49), .op (.bsl 4 1 [(.int .i64 0), (.int .i64 0), (.str []), .nils] [(0, (.tmp 48))]), none⟩,
   ⟨(some 50), .call 21 [(.const (.str [36, 98, 111, 120])), (.tmp 49)], none⟩,
   ⟨none, .op (.st 4 (.tmp 6) (.tmp 50)), none⟩,
   ⟨(some 7), .op (.mov (.const (.int .i64 0))), none⟩])
 (.ret (mk 51 [6, 7]))))))⟩
theorem ok17 : FnOK Tryd.prog 17 c17 := ⟨Tryd.f17, _, Tryd.func17, by kernel_rfl, rfl, by kernel_rfl, by kernel_rfl, by kernel_rfl⟩

/-- sizar/term.Same. -/
def c18 : AFun := ⟨16, [.tmp 4], false, (.seq (.reg [⟨(some 2), .op (.box (.tmp 0)), none⟩,
   ⟨(some 3), .op (.box (.tmp 1)), none⟩,
   ⟨(some 4), .op (.mov (.const (.bool false))), none⟩])
 (.seq (.reg [⟨(some 5), .op (.ld (some 4) (.tmp 2)), none⟩,
   ⟨(some 6), .call 16 [(.tmp 5)], none⟩,
   ⟨(some 7), .op (.mov (.tmp 6)), none⟩,
   ⟨(some 8), .op (.ld (some 4) (.tmp 3)), (some (7, true))⟩,
   ⟨(some 9), .call 16 [(.tmp 8)], (some (7, true))⟩,
   ⟨(some 10), .op (.pick (.tmp 7) (.tmp 9) (.const (.bool false))), none⟩,
   ⟨(some 11), .op (.mov (.tmp 10)), none⟩,
   ⟨(some 12), .op (.ld (some 4) (.tmp 2)), (some (11, true))⟩,
   ⟨(some 13), .op (.ld (some 4) (.tmp 3)), (some (11, true))⟩,
   ⟨(some 14), .call 52 [(.tmp 12), (.tmp 13)], (some (11, true))⟩,
   ⟨(some 15), .op (.pick (.tmp 11) (.tmp 14) (.const (.bool false))), none⟩,
   ⟨(some 4), .op (.mov (.tmp 15)), none⟩])
 (.ret (mk 16 [4]))))⟩
theorem ok18 : FnOK Tryd.prog 18 c18 := ⟨Tryd.f18, _, Tryd.func18, by kernel_rfl, rfl, by kernel_rfl, by kernel_rfl, by kernel_rfl⟩

/-- sizar/box.Is. -/
def c19 : AFun := ⟨24, [.tmp 2], false, (.seq (.reg [⟨(some 1), .op (.box (.tmp 0)), none⟩,
   ⟨(some 2), .op (.mov (.const (.bool false))), none⟩])
 (.seq (.reg [⟨(some 3), .op (.ld (some 4) (.tmp 1)), none⟩,
   ⟨(some 4), .call 16 [(.tmp 3)], none⟩,
   ⟨(some 5), .op (.mov (.tmp 4)), none⟩,
   ⟨(some 6), .op (.fad 2 (.tmp 1)), (some (5, true))⟩,
   ⟨(some 7), .op (.ld none (.tmp 6)), (some (5, true))⟩,
   ⟨(some 8), .op (.bin .eql (.tmp 7) (.const (.str [36, 98, 111, 120]))), (some (5, true))⟩,
   ⟨(some 9), .op (.pick (.tmp 5) (.tmp 8) (.const (.bool false))), none⟩,
   ⟨(some 10), .op (.mov (.tmp 9)), none⟩,
   ⟨(some 11), .op (.fad 3 (.tmp 1)), (some (10, true))⟩,
   ⟨(some 12), .op (.ld none (.tmp 11)), (some (10, true))⟩,
   ⟨(some 13), .op (.lenv (.tmp 12)), (some (10, true))⟩,
   ⟨(some 14), .op (.bin .eql (.tmp 13) (.const (.int .i64 1))), (some (10, true))⟩,
   ⟨(some 15), .op (.pick (.tmp 10) (.tmp 14) (.const (.bool false))), none⟩,
   ⟨(some 16), .op (.mov (.tmp 15)), none⟩,
   ⟨(some 17), .op (.fad 3 (.tmp 1)), (some (16, true))⟩,
   ⟨(some 18), .op (.ld none (.tmp 17)), (some (16, true))⟩,
   ⟨(some 19), .op (.iad 4 (.tmp 18) (.const (.int .i64 0))), (some (16, true))⟩,
   ⟨(some 20), .op (.fad 0 (.tmp 19)), (some (16, true))⟩,
   ⟨(some 21), .op (.ld none (.tmp 20)), (some (16, true))⟩,
   ⟨(some 22), .op (.bin .eql (.tmp 21) (.const (.int .i64 1))), (some (16, true))⟩,
   ⟨(some 23), .op (.pick (.tmp 16) (.tmp 22) (.const (.bool false))), none⟩,
   ⟨(some 2), .op (.mov (.tmp 23)), none⟩])
 (.ret (mk 24 [2]))))⟩
theorem ok19 : FnOK Tryd.prog 19 c19 := ⟨Tryd.f19, _, Tryd.func19, by kernel_rfl, rfl, by kernel_rfl, by kernel_rfl, by kernel_rfl⟩

/-- (*sizar/box.Boxes).Len. -/
def c20 : AFun := ⟨8, [.tmp 2], false, (.seq (.reg [⟨(some 2), .op (.mov (.const (.int .i64 0))), none⟩])
 (.seq (.reg [⟨(some 3), .op (.mov (.tmp 0)), none⟩,
   ⟨(some 4), .op (.nck (.tmp 3)), none⟩,
   ⟨(some 5), .op (.fad 1 (.tmp 4)), none⟩,
   ⟨(some 6), .op (.ld none (.tmp 5)), none⟩,
   ⟨(some 7), .op (.lenv (.tmp 6)), none⟩,
   ⟨(some 2), .op (.mov (.tmp 7)), none⟩])
 (.ret (mk 8 [2]))))⟩
theorem ok20 : FnOK Tryd.prog 20 c20 := ⟨Tryd.f20, _, Tryd.func20, by kernel_rfl, rfl, by kernel_rfl, by kernel_rfl, by kernel_rfl⟩

/-- sizar/term.Comp. -/
def c21 : AFun := ⟨9, [.cell 4 (some 4)], false, (.seq (.reg [⟨(some 4), .op (.box (.const (.agg [(.int .i64 0), (.int .i64 0), (.str []), .nils]))), none⟩])
 (.seq (.reg [⟨(some 5), .op (.mov (.tmp 0)), none⟩,
   ⟨(some 6), .op (.mov (.tmp 1)), none⟩,
   ⟨(some 7), .call 53 [(.tmp 6)], none⟩,
   ⟨(some 8), .op (.bld [(.int .i64 0), (.int .i64 0), (.str []), .nils] [(0, 1, (.const (.int .i64 2))), (2, 1, (.tmp 5)), (3, 1, (.tmp 7))]), none⟩,
   ⟨none, .op (.st 4 (.tmp 4) (.tmp 8)), none⟩])
 (.ret (mk 9 [4]))))⟩
theorem ok21 : FnOK Tryd.prog 21 c21 := ⟨Tryd.f21, _, Tryd.func21, by kernel_rfl, rfl, by kernel_rfl, by kernel_rfl, by kernel_rfl⟩

/-- sizar/term.Int. -/
def c22 : AFun := ⟨5, [.cell 2 (some 4)], false, (.seq (.reg [⟨(some 2), .op (.box (.const (.agg [(.int .i64 0), (.int .i64 0), (.str []), .nils]))), none⟩])
 (.seq (.reg [⟨(some 3), .op (.mov (.tmp 0)), none⟩,
   ⟨(some 4), .op (.bld [(.int .i64 0), (.int .i64 0), (.str []), .nils] [(0, 1, (.const (.int .i64 1))), (1, 1, (.tmp 3))]), none⟩,
   ⟨none, .op (.st 4 (.tmp 2) (.tmp 4)), none⟩])
 (.ret (mk 5 [2]))))⟩
theorem ok22 : FnOK Tryd.prog 22 c22 := ⟨Tryd.f22, _, Tryd.func22, by kernel_rfl, rfl, by kernel_rfl, by kernel_rfl, by kernel_rfl⟩

/-- (*sizar/box.Boxes).Get. -/
def c23 : AFun := ⟨52, [.cell 4 (some 5), .tmp 5], false, (.seq (.reg [⟨(some 3), .op (.box (.tmp 1)), none⟩,
   ⟨(some 4), .op (.box (.const (.agg [(.int .u64 0), (.int .i64 0), (.int .i64 0), (.str []), .nils]))), none⟩,
   ⟨(some 5), .op (.mov (.const (.int .i64 0))), none⟩])
 (.seq (.block 0 (.seq (.reg [⟨(some 9), .op (.ld (some 4) (.tmp 3)), none⟩,
    ⟨(some 10), .call 16 [(.tmp 9)], none⟩,
    ⟨(some 11), .op (.mov (.tmp 10)), none⟩,
    ⟨(some 12), .op (.fad 0 (.tmp 3)), (some (11, true))⟩,
    ⟨(some 13), .op (.ld none (.tmp 12)), (some (11, true))⟩,
    ⟨(some 14), .op (.bin .eql (.tmp 13) (.const (.int .i64 0))), (some (11, true))⟩,
    ⟨(some 15), .op (.pick (.tmp 11) (.tmp 14) (.const (.bool false))), none⟩,
    ⟨(some 8), .op (.mov (.tmp 15)), none⟩])
  (.cond (.tmp 8) (.seq (.reg [⟨(some 16), .op (.bld [(.int .u64 0), (.int .i64 0), (.int .i64 0), (.str []), .nils] []), none⟩,
     ⟨none, .op (.st 5 (.tmp 4) (.tmp 16)), none⟩,
     ⟨(some 5), .op (.mov (.const (.int .i64 6))), none⟩])
   (.ret (mk 52 [4, 5])))
  (.seq (.reg [⟨(some 18), .op (.ld (some 4) (.tmp 3)), none⟩,
     ⟨(some 19), .call 19 [(.tmp 18)], none⟩,
     ⟨(some 20), .op (.un .not (.tmp 19)), none⟩,
     ⟨(some 17), .op (.mov (.tmp 20)), none⟩])
   (.cond (.tmp 17) (.seq (.reg [⟨(some 21), .op (.bld [(.int .u64 0), (.int .i64 0), (.int .i64 0), (.str []), .nils] []), none⟩,
      ⟨none, .op (.st 5 (.tmp 4) (.tmp 21)), none⟩,
      ⟨(some 5), .op (.mov (.const (.int .i64 5))), none⟩])
    (.ret (mk 52 [4, 5])))
   .skip)))))
 (.seq (.reg [⟨(some 22), .op (.fad 3 (.tmp 3)), none⟩,
   ⟨(some 23), .op (.ld none (.tmp 22)), none⟩,
   ⟨(some 24), .op (.iad 4 (.tmp 23) (.const (.int .i64 0))), none⟩,
   ⟨(some 25), .op (.fad 1 (.tmp 24)), none⟩,
   ⟨(some 26), .op (.ld none (.tmp 25)), none⟩,
   ⟨(some 6), .op (.mov (.tmp 26)), none⟩])
 (.seq (.seq (.reg [⟨(some 27), .op (.mov (.tmp 6)), none⟩,
   ⟨(some 28), .op (.bin .lss (.tmp 27) (.const (.int .i64 1))), none⟩,
   ⟨(some 29), .op (.mov (.tmp 28)), none⟩,
   ⟨(some 30), .op (.mov (.tmp 6)), (some (29, false))⟩,
   ⟨(some 31), .op (.mov (.tmp 0)), (some (29, false))⟩,
   ⟨(some 32), .op (.nck (.tmp 31)), (some (29, false))⟩,
   ⟨(some 33), .op (.fad 1 (.tmp 32)), (some (29, false))⟩,
   ⟨(some 34), .op (.ld none (.tmp 33)), (some (29, false))⟩,
   ⟨(some 35), .op (.lenv (.tmp 34)), (some (29, false))⟩,
   ⟨(some 36), .op (.bin .gtr (.tmp 30) (.tmp 35)), (some (29, false))⟩,
   ⟨(some 37), .op (.pick (.tmp 29) (.const (.bool true)) (.tmp 36)), none⟩])
 (.cond (.tmp 37) (.seq (.reg [⟨(some 38), .op (.bld [(.int .u64 0), (.int .i64 0), (.int .i64 0), (.str []), .nils] []), none⟩,
    ⟨none, .op (.st 5 (.tmp 4) (.tmp 38)), none⟩,
    ⟨(some 5), .op (.mov (.const (.int .i64 7))), none⟩])
  (.ret (mk 52 [4, 5])))
 .skip))
 (.seq (.reg [⟨(some 39), .op (.mov (.tmp 0)), none⟩,
   ⟨(some 40), .op (.nck (.tmp 39)), none⟩,
   ⟨(some 41), .op (.fad 1 (.tmp 40)), none⟩,
   ⟨(some 42), .op (.ld none (.tmp 41)), none⟩,
   ⟨(some 43), .op (.mov (.tmp 6)), none⟩,
   ⟨(some 44), .op (.bin .sub (.tmp 43) (.const (.int .i64 1))), none⟩,
   ⟨(some 45), .op (.iad 5 (.tmp 42) (.tmp 44)), none⟩,
   ⟨(some 46), .op (.ld (some 5) (.tmp 45)), none⟩,
   ⟨(some 7), .op (.box (.const (.agg [(.int .u64 0), (.int .i64 0), (.int .i64 0), (.str []), .nils]))), none⟩,
   ⟨none, .op (.st 5 (.tmp 7) (.tmp 46)), none⟩])
 (.seq (.reg [⟨(some 47), .op (.fad 1 (.tmp 7)), none⟩,
   ⟨(some 48), .op (.ld (some 4) (.tmp 47)), none⟩,
   ⟨(some 49), .call 51 [(.tmp 48), (.const .nilm)], none⟩,
   ⟨(some 50), .op (.fad 1 (.tmp 7)), none⟩,
   ⟨none, .op (.st 4 (.tmp 50) (.tmp 49)), none⟩])
 (.seq (.reg [⟨(some 51), .op (.ld (some 5) (.tmp 7)), none⟩,
   ⟨none, .op (.st 5 (.tmp 4) (.tmp 51)), none⟩,
   ⟨(some 5), .op (.mov (.const (.int .i64 0))), none⟩])
 (.ret (mk 52 [4, 5])))))))))⟩
theorem ok23 : FnOK Tryd.prog 23 c23 := ⟨Tryd.f23, _, Tryd.func23, by kernel_rfl, rfl, by kernel_rfl, by kernel_rfl, by kernel_rfl⟩

/-- sizar/term.Atom. -/
def c24 : AFun := ⟨5, [.cell 2 (some 4)], false, (.seq (.reg [⟨(some 2), .op (.box (.const (.agg [(.int .i64 0), (.int .i64 0), (.str []), .nils]))), none⟩])
 (.seq (.reg [⟨(some 3), .op (.mov (.tmp 0)), none⟩,
   ⟨(some 4), .op (.bld [(.int .i64 0), (.int .i64 0), (.str []), .nils] [(0, 1, (.const (.int .i64 2))), (2, 1, (.tmp 3))]), none⟩,
   ⟨none, .op (.st 4 (.tmp 2) (.tmp 4)), none⟩])
 (.ret (mk 5 [2]))))⟩
theorem ok24 : FnOK Tryd.prog 24 c24 := ⟨Tryd.f24, _, Tryd.func24, by kernel_rfl, rfl, by kernel_rfl, by kernel_rfl, by kernel_rfl⟩

/-- sizar/term.Var. -/
def c25 : AFun := ⟨5, [.cell 2 (some 4)], false, (.seq (.reg [⟨(some 2), .op (.box (.const (.agg [(.int .i64 0), (.int .i64 0), (.str []), .nils]))), none⟩])
 (.seq (.reg [⟨(some 3), .op (.mov (.tmp 0)), none⟩,
   ⟨(some 4), .op (.bld [(.int .i64 0), (.int .i64 0), (.str []), .nils] [(0, 1, (.const (.int .i64 0))), (1, 1, (.tmp 3))]), none⟩,
   ⟨none, .op (.st 4 (.tmp 2) (.tmp 4)), none⟩])
 (.ret (mk 5 [2]))))⟩
theorem ok25 : FnOK Tryd.prog 25 c25 := ⟨Tryd.f25, _, Tryd.func25, by kernel_rfl, rfl, by kernel_rfl, by kernel_rfl, by kernel_rfl⟩

/-- sizar/sizarlaw1.awake. -/
def c26 : AFun := ⟨22, [.tmp 0], false, (.seq (.reg [⟨(some 0), .op (.mov (.const (.bool false))), none⟩])
 (.seq (.reg [⟨(some 4), .call 39 [], none⟩,
   ⟨(some 5), .call 29 [(.tmp 4), (.const (.str [123, 97, 44, 99, 125]))], none⟩,
   ⟨(some 3), .op (.mov (.tmp 5)), none⟩,
   ⟨(some 6), .op (.ext (.tmp 3) 0), none⟩,
   ⟨(some 7), .op (.ext (.tmp 3) 1), none⟩,
   ⟨(some 1), .op (.mov (.tmp 6)), none⟩,
   ⟨(some 2), .op (.mov (.tmp 7)), none⟩])
 (.seq (.reg [⟨(some 8), .call 39 [], none⟩,
   ⟨(some 9), .call 35 [(.tmp 8), (.const (.int .u64 5))], none⟩,
   ⟨(some 10), .op (.bin .eql (.tmp 9) (.const (.str [123, 97, 44, 99, 125]))), none⟩,
   ⟨(some 11), .op (.mov (.tmp 10)), none⟩,
   ⟨(some 12), .op (.mov (.tmp 2)), (some (11, true))⟩,
   ⟨(some 13), .op (.pick (.tmp 11) (.tmp 12) (.const (.bool false))), none⟩,
   ⟨(some 14), .op (.mov (.tmp 13)), none⟩,
   ⟨(some 15), .op (.mov (.tmp 1)), (some (14, true))⟩,
   ⟨(some 16), .op (.bin .eql (.tmp 15) (.const (.int .u64 5))), (some (14, true))⟩,
   ⟨(some 17), .op (.pick (.tmp 14) (.tmp 16) (.const (.bool false))), none⟩,
   ⟨(some 18), .op (.mov (.tmp 17)), none⟩,
   ⟨(some 19), .call 39 [], (some (18, true))⟩,
   ⟨(some 20), .call 32 [(.tmp 19)], (some (18, true))⟩,
   ⟨(some 21), .op (.pick (.tmp 18) (.tmp 20) (.const (.bool false))), none⟩,
   ⟨(some 0), .op (.mov (.tmp 21)), none⟩])
 (.ret (mk 22 [0])))))⟩
theorem ok26 : FnOK Tryd.prog 26 c26 := ⟨Tryd.f26, _, Tryd.func26, by kernel_rfl, rfl, by kernel_rfl, by kernel_rfl, by kernel_rfl⟩

/-- sizar/label.Join. -/
def c27_m0 : List Bool := (mk 17 [3, 6, 7, 8])
abbrev c27_f0 (v3 v6 v7 v8 : AV) : List AV := FM 17 [(3, v3), (6, v6), (7, v7), (8, v8)]
def c27_b0 : ACode := (.seq (.reg [⟨(some 9), .op (.bin .lss (.tmp 8) (.tmp 7)), none⟩])
 (.seq (.cond (.tmp 9) .skip
 (.exit 0 (mk 17 [3])))
 (.seq (.block 1 (.seq (.reg [⟨(some 10), .op (.iad 1 (.tmp 6) (.tmp 8)), none⟩,
    ⟨(some 11), .op (.ld none (.tmp 10)), none⟩,
    ⟨(some 5), .op (.mov (.tmp 11)), none⟩])
  (.reg [⟨(some 12), .op (.mov (.tmp 3)), none⟩,
    ⟨(some 13), .op (.mov (.tmp 5)), none⟩,
    ⟨(some 14), .op (.bin .or (.tmp 12) (.tmp 13)), none⟩,
    ⟨(some 3), .op (.mov (.tmp 14)), none⟩])))
 (.reg [⟨(some 15), .op (.bin .add (.tmp 8) (.const (.int .i64 1))), none⟩,
   ⟨(some 8), .op (.mov (.tmp 15)), none⟩]))))
def c27 : AFun := ⟨17, [.tmp 2], false, (.seq (.reg [⟨(some 2), .op (.mov (.const (.int .u64 0))), none⟩])
 (.seq (.reg [⟨(some 3), .op (.mov (.const (.int .u64 0))), none⟩])
 (.seq (.seq (.reg [⟨(some 6), .op (.mov (.tmp 0)), none⟩,
   ⟨(some 7), .op (.lenv (.tmp 6)), none⟩,
   ⟨(some 8), .op (.mov (.const (.int .i64 0))), none⟩])
 (.block 0 (.loop c27_m0 c27_b0)))
 (.seq (.reg [⟨(some 16), .op (.mov (.tmp 3)), none⟩,
   ⟨(some 2), .op (.mov (.tmp 16)), none⟩])
 (.ret (mk 17 [2]))))))⟩
theorem ok27 : FnOK Tryd.prog 27 c27 := ⟨Tryd.f27, _, Tryd.func27, by kernel_rfl, rfl, by kernel_rfl, by kernel_rfl, by kernel_rfl⟩

/-- sizar/label.Leq. -/
def c28 : AFun := ⟨9, [.tmp 4], false, (.seq (.reg [⟨(some 4), .op (.mov (.const (.bool false))), none⟩])
 (.seq (.reg [⟨(some 5), .op (.mov (.tmp 0)), none⟩,
   ⟨(some 6), .op (.mov (.tmp 1)), none⟩,
   ⟨(some 7), .op (.bin .andNot (.tmp 5) (.tmp 6)), none⟩,
   ⟨(some 8), .op (.bin .eql (.tmp 7) (.const (.int .u64 0))), none⟩,
   ⟨(some 4), .op (.mov (.tmp 8)), none⟩])
 (.ret (mk 9 [4]))))⟩
theorem ok28 : FnOK Tryd.prog 28 c28 := ⟨Tryd.f28, _, Tryd.func28, by kernel_rfl, rfl, by kernel_rfl, by kernel_rfl, by kernel_rfl⟩

/-- sizar/label.Parse. -/
def c29_m0 : List Bool := (mk 38 [0, 1, 6, 16, 17, 18])
abbrev c29_f0 (v0 v1 v6 v16 v17 v18 : AV) : List AV := FM 38 [(0, v0), (1, v1), (6, v6), (16, v16), (17, v17), (18, v18)]
def c29_b0 : ACode := (.seq (.reg [⟨(some 19), .op (.bin .lss (.tmp 18) (.tmp 17)), none⟩])
 (.seq (.cond (.tmp 19) .skip
 (.exit 0 (mk 38 [0, 1, 6])))
 (.seq (.block 1 (.seq (.reg [⟨(some 20), .op (.iad 1 (.tmp 16) (.tmp 18)), none⟩,
    ⟨(some 21), .op (.ld none (.tmp 20)), none⟩,
    ⟨(some 8), .op (.mov (.tmp 21)), none⟩])
  (.seq (.reg [⟨(some 22), .op (.mov (.tmp 0)), none⟩,
    ⟨(some 23), .op (.mov (.tmp 8)), none⟩,
    ⟨(some 24), .call 57 [(.tmp 22), (.tmp 23)], none⟩,
    ⟨(some 9), .op (.mov (.tmp 24)), none⟩])
  (.seq (.reg [⟨(some 25), .op (.mov (.tmp 9)), none⟩,
    ⟨(some 26), .op (.bin .geq (.tmp 25) (.const (.int .i64 0))), none⟩])
  (.cond (.tmp 26) (.reg [⟨(some 27), .op (.mov (.tmp 6)), none⟩,
     ⟨(some 28), .op (.mov (.tmp 9)), none⟩,
     ⟨(some 29), .op (.bin .shl (.const (.int .u64 1)) (.tmp 28)), none⟩,
     ⟨(some 30), .op (.bin .or (.tmp 27) (.tmp 29)), none⟩,
     ⟨(some 6), .op (.mov (.tmp 30)), none⟩])
  .skip)))))
 (.reg [⟨(some 31), .op (.bin .add (.tmp 18) (.const (.int .i64 1))), none⟩,
   ⟨(some 18), .op (.mov (.tmp 31)), none⟩]))))
def c29 : AFun := ⟨38, [.tmp 4, .tmp 5], false, (.seq (.reg [⟨(some 4), .op (.mov (.const (.int .u64 0))), none⟩,
   ⟨(some 5), .op (.mov (.const (.bool false))), none⟩])
 (.seq (.seq (.reg [⟨(some 10), .op (.mov (.tmp 0)), none⟩,
   ⟨(some 11), .call 32 [(.tmp 10)], none⟩,
   ⟨(some 12), .op (.un .not (.tmp 11)), none⟩])
 (.cond (.tmp 12) (.seq (.reg [⟨(some 4), .op (.mov (.const (.int .u64 0))), none⟩,
    ⟨(some 5), .op (.mov (.const (.bool false))), none⟩])
  (.ret (mk 38 [4, 5])))
 .skip))
 (.seq (.reg [⟨(some 6), .op (.mov (.const (.int .u64 0))), none⟩])
 (.seq (.seq (.reg [⟨(some 13), .op (.mov (.tmp 1)), none⟩,
   ⟨(some 14), .call 56 [(.tmp 13), (.const (.str [123]))], none⟩,
   ⟨(some 15), .call 55 [(.tmp 14), (.const (.str [125]))], none⟩,
   ⟨(some 16), .call 54 [(.tmp 15), (.const (.str [44]))], none⟩,
   ⟨(some 17), .op (.lenv (.tmp 16)), none⟩,
   ⟨(some 18), .op (.mov (.const (.int .i64 0))), none⟩])
 (.block 0 (.loop c29_m0 c29_b0)))
 (.seq (.seq (.reg [⟨(some 32), .op (.mov (.tmp 0)), none⟩,
   ⟨(some 33), .op (.mov (.tmp 6)), none⟩,
   ⟨(some 34), .call 35 [(.tmp 32), (.tmp 33)], none⟩,
   ⟨(some 35), .op (.mov (.tmp 1)), none⟩,
   ⟨(some 36), .op (.bin .neq (.tmp 34) (.tmp 35)), none⟩])
 (.cond (.tmp 36) (.seq (.reg [⟨(some 4), .op (.mov (.const (.int .u64 0))), none⟩,
    ⟨(some 5), .op (.mov (.const (.bool false))), none⟩])
  (.ret (mk 38 [4, 5])))
 .skip))
 (.seq (.reg [⟨(some 37), .op (.mov (.tmp 6)), none⟩,
   ⟨(some 4), .op (.mov (.tmp 37)), none⟩,
   ⟨(some 5), .op (.mov (.const (.bool true))), none⟩])
 (.ret (mk 38 [4, 5]))))))))⟩
theorem ok29 : FnOK Tryd.prog 29 c29 := ⟨Tryd.f29, _, Tryd.func29, by kernel_rfl, rfl, by kernel_rfl, by kernel_rfl, by kernel_rfl⟩

/-- sizar/sizarref1.LabelParse. -/
def c30_m0 : List Bool := (mk 107 [0, 1, 6, 7, 8, 9])
abbrev c30_f0 (v0 v1 v6 v7 v8 v9 : AV) : List AV := FM 107 [(0, v0), (1, v1), (6, v6), (7, v7), (8, v8), (9, v9)]
def c30_b0 : ACode := (.seq (.seq (.reg [⟨(some 38), .op (.mov (.tmp 9)), none⟩,
   ⟨(some 39), .op (.mov (.tmp 0)), none⟩,
   ⟨(some 40), .op (.mov (.tmp 8)), none⟩,
   ⟨(some 41), .op (.iad 1 (.tmp 39) (.tmp 40)), none⟩,
   ⟨(some 42), .op (.ld none (.tmp 41)), none⟩,
   ⟨(some 43), .op (.lens (.tmp 42)), none⟩,
   ⟨(some 44), .op (.bin .add (.tmp 38) (.tmp 43)), none⟩,
   ⟨(some 45), .op (.mov (.tmp 1)), none⟩,
   ⟨(some 46), .op (.lens (.tmp 45)), none⟩,
   ⟨(some 47), .op (.bin .lss (.tmp 44) (.tmp 46)), none⟩])
 (.cond (.tmp 47) .skip
 (.exit 2 (mk 107 [0, 1, 6, 7, 8]))))
 (.seq (.block 3 (.seq (.reg [⟨(some 50), .op (.mov (.tmp 1)), none⟩,
    ⟨(some 51), .op (.mov (.tmp 9)), none⟩,
    ⟨(some 52), .op (.mov (.tmp 0)), none⟩,
    ⟨(some 53), .op (.mov (.tmp 8)), none⟩,
    ⟨(some 54), .op (.iad 1 (.tmp 52) (.tmp 53)), none⟩,
    ⟨(some 55), .op (.ld none (.tmp 54)), none⟩,
    ⟨(some 56), .op (.lens (.tmp 55)), none⟩,
    ⟨(some 57), .op (.bin .add (.tmp 51) (.tmp 56)), none⟩,
    ⟨(some 58), .op (.ixs (.tmp 50) (.tmp 57)), none⟩,
    ⟨(some 10), .op (.mov (.tmp 58)), none⟩])
  (.seq (.reg [⟨(some 59), .op (.mov (.tmp 1)), none⟩,
    ⟨(some 60), .op (.mov (.tmp 9)), none⟩,
    ⟨(some 61), .op (.mov (.tmp 9)), none⟩,
    ⟨(some 62), .op (.mov (.tmp 0)), none⟩,
    ⟨(some 63), .op (.mov (.tmp 8)), none⟩,
    ⟨(some 64), .op (.iad 1 (.tmp 62) (.tmp 63)), none⟩,
    ⟨(some 65), .op (.ld none (.tmp 64)), none⟩,
    ⟨(some 66), .op (.lens (.tmp 65)), none⟩,
    ⟨(some 67), .op (.bin .add (.tmp 61) (.tmp 66)), none⟩,
    ⟨(some 68), .op (.sls (.tmp 59) (some (.tmp 60)) (some (.tmp 67))), none⟩,
    ⟨(some 69), .op (.mov (.tmp 0)), none⟩,
    ⟨(some 70), .op (.mov (.tmp 8)), none⟩,
    ⟨(some 71), .op (.iad 1 (.tmp 69) (.tmp 70)), none⟩,
    ⟨(some 72), .op (.ld none (.tmp 71)), none⟩,
    ⟨(some 73), .op (.bin .eql (.tmp 68) (.tmp 72)), none⟩,
    ⟨(some 74), .op (.mov (.tmp 73)), none⟩,
    ⟨(some 75), .op (.mov (.tmp 1)), (some (74, true))⟩,
    ⟨(some 76), .op (.mov (.tmp 9)), (some (74, true))⟩,
    ⟨(some 77), .op (.bin .sub (.tmp 76) (.const (.int .i64 1))), (some (74, true))⟩,
    ⟨(some 78), .op (.ixs (.tmp 75) (.tmp 77)), (some (74, true))⟩,
    ⟨(some 79), .op (.bin .eql (.tmp 78) (.const (.int .u8 123))), (some (74, true))⟩,
    ⟨(some 80), .op (.mov (.tmp 79)), (some (74, true))⟩,
    ⟨(some 81), .op (.mov (.tmp 1)), (some (80, false))⟩,
    ⟨(some 82), .op (.mov (.tmp 9)), (some (80, false))⟩,
    ⟨(some 83), .op (.bin .sub (.tmp 82) (.const (.int .i64 1))), (some (80, false))⟩,
    ⟨(some 84), .op (.ixs (.tmp 81) (.tmp 83)), (some (80, false))⟩,
    ⟨(some 85), .op (.bin .eql (.tmp 84) (.const (.int .u8 44))), (some (80, false))⟩,
    ⟨(some 86), .op (.pick (.tmp 80) (.const (.bool true)) (.tmp 85)), (some (74, true))⟩,
    ⟨(some 87), .op (.pick (.tmp 74) (.tmp 86) (.const (.bool false))), none⟩,
    ⟨(some 88), .op (.mov (.tmp 87)), none⟩,
    ⟨(some 89), .op (.mov (.tmp 10)), (some (88, true))⟩,
    ⟨(some 90), .op (.bin .eql (.tmp 89) (.const (.int .u8 44))), (some (88, true))⟩,
    ⟨(some 91), .op (.mov (.tmp 90)), (some (88, true))⟩,
    ⟨(some 92), .op (.mov (.tmp 10)), (some (91, false))⟩,
    ⟨(some 93), .op (.bin .eql (.tmp 92) (.const (.int .u8 125))), (some (91, false))⟩,
    ⟨(some 94), .op (.pick (.tmp 91) (.const (.bool true)) (.tmp 93)), (some (88, true))⟩,
    ⟨(some 95), .op (.pick (.tmp 88) (.tmp 94) (.const (.bool false))), none⟩])
  (.cond (.tmp 95) (.reg [⟨(some 96), .op (.mov (.tmp 6)), none⟩,
     ⟨(some 97), .op (.mov (.tmp 7)), none⟩,
     ⟨(some 98), .op (.bin .or (.tmp 96) (.tmp 97)), none⟩,
     ⟨(some 6), .op (.mov (.tmp 98)), none⟩])
  .skip))))
 (.reg [⟨(some 48), .op (.mov (.tmp 9)), none⟩,
   ⟨(some 49), .op (.bin .add (.tmp 48) (.const (.int .i64 1))), none⟩,
   ⟨(some 9), .op (.mov (.tmp 49)), none⟩])))
def c30_m1 : List Bool := (mk 107 [0, 1, 6, 7, 8])
abbrev c30_f1 (v0 v1 v6 v7 v8 : AV) : List AV := FM 107 [(0, v0), (1, v1), (6, v6), (7, v7), (8, v8)]
def c30_b1 : ACode := (.seq (.seq (.reg [⟨(some 32), .op (.mov (.tmp 8)), none⟩,
   ⟨(some 33), .op (.mov (.tmp 0)), none⟩,
   ⟨(some 34), .op (.lenv (.tmp 33)), none⟩,
   ⟨(some 35), .op (.bin .lss (.tmp 32) (.tmp 34)), none⟩])
 (.cond (.tmp 35) .skip
 (.exit 0 (mk 107 [0, 1, 6]))))
 (.seq (.block 1 (.seq (.seq (.reg [⟨(some 9), .op (.mov (.const (.int .i64 1))), none⟩])
  (.block 2 (.loop c30_m0 c30_b0)))
  (.reg [⟨(some 99), .op (.mov (.tmp 7)), none⟩,
    ⟨(some 100), .op (.bin .mul (.const (.int .u64 2)) (.tmp 99)), none⟩,
    ⟨(some 7), .op (.mov (.tmp 100)), none⟩])))
 (.reg [⟨(some 36), .op (.mov (.tmp 8)), none⟩,
   ⟨(some 37), .op (.bin .add (.tmp 36) (.const (.int .i64 1))), none⟩,
   ⟨(some 8), .op (.mov (.tmp 37)), none⟩])))
def c30 : AFun := ⟨107, [.tmp 4, .tmp 5], false, (.seq (.reg [⟨(some 4), .op (.mov (.const (.int .u64 0))), none⟩,
   ⟨(some 5), .op (.mov (.const (.bool false))), none⟩])
 (.seq (.seq (.reg [⟨(some 11), .op (.mov (.tmp 0)), none⟩,
   ⟨(some 12), .call 31 [(.tmp 11)], none⟩,
   ⟨(some 13), .op (.un .not (.tmp 12)), none⟩,
   ⟨(some 14), .op (.mov (.tmp 13)), none⟩,
   ⟨(some 15), .op (.mov (.tmp 1)), (some (14, false))⟩,
   ⟨(some 16), .op (.lens (.tmp 15)), (some (14, false))⟩,
   ⟨(some 17), .op (.bin .lss (.tmp 16) (.const (.int .i64 2))), (some (14, false))⟩,
   ⟨(some 18), .op (.pick (.tmp 14) (.const (.bool true)) (.tmp 17)), none⟩,
   ⟨(some 19), .op (.mov (.tmp 18)), none⟩,
   ⟨(some 20), .op (.mov (.tmp 1)), (some (19, false))⟩,
   ⟨(some 21), .op (.ixs (.tmp 20) (.const (.int .i64 0))), (some (19, false))⟩,
   ⟨(some 22), .op (.bin .neq (.tmp 21) (.const (.int .u8 123))), (some (19, false))⟩,
   ⟨(some 23), .op (.pick (.tmp 19) (.const (.bool true)) (.tmp 22)), none⟩,
   ⟨(some 24), .op (.mov (.tmp 23)), none⟩,
   ⟨(some 25), .op (.mov (.tmp 1)), (some (24, false))⟩,
   ⟨(some 26), .op (.mov (.tmp 1)), (some (24, false))⟩,
   ⟨(some 27), .op (.lens (.tmp 26)), (some (24, false))⟩,
   ⟨(some 28), .op (.bin .sub (.tmp 27) (.const (.int .i64 1))), (some (24, false))⟩,
   ⟨(some 29), .op (.ixs (.tmp 25) (.tmp 28)), (some (24, false))⟩,
   ⟨(some 30), .op (.bin .neq (.tmp 29) (.const (.int .u8 125))), (some (24, false))⟩,
   ⟨(some 31), .op (.pick (.tmp 24) (.const (.bool true)) (.tmp 30)), none⟩])
 (.cond (.tmp 31) (.seq (.reg [⟨(some 4), .op (.mov (.const (.int .u64 0))), none⟩,
    ⟨(some 5), .op (.mov (.const (.bool false))), none⟩])
  (.ret (mk 107 [4, 5])))
 .skip))
 (.seq (.reg [⟨(some 6), .op (.mov (.const (.int .u64 0))), none⟩])
 (.seq (.reg [⟨(some 7), .op (.mov (.const (.int .u64 1))), none⟩])
 (.seq (.seq (.reg [⟨(some 8), .op (.mov (.const (.int .i64 0))), none⟩])
 (.block 0 (.loop c30_m1 c30_b1)))
 (.seq (.seq (.reg [⟨(some 101), .op (.mov (.tmp 0)), none⟩,
   ⟨(some 102), .op (.mov (.tmp 6)), none⟩,
   ⟨(some 103), .call 36 [(.tmp 101), (.tmp 102)], none⟩,
   ⟨(some 104), .op (.mov (.tmp 1)), none⟩,
   ⟨(some 105), .op (.bin .neq (.tmp 103) (.tmp 104)), none⟩])
 (.cond (.tmp 105) (.seq (.reg [⟨(some 4), .op (.mov (.const (.int .u64 0))), none⟩,
    ⟨(some 5), .op (.mov (.const (.bool false))), none⟩])
  (.ret (mk 107 [4, 5])))
 .skip))
 (.seq (.reg [⟨(some 106), .op (.mov (.tmp 6)), none⟩,
   ⟨(some 4), .op (.mov (.tmp 106)), none⟩,
   ⟨(some 5), .op (.mov (.const (.bool true))), none⟩])
 (.ret (mk 107 [4, 5])))))))))⟩
theorem ok30 : FnOK Tryd.prog 30 c30 := ⟨Tryd.f30, _, Tryd.func30, by kernel_rfl, rfl, by kernel_rfl, by kernel_rfl, by kernel_rfl⟩


end Go.Proofs.YtnkafagfkblfeaaDoor
