import Derived.Test.YtlofbalilhohmaaProg
import Derived.KernelRfl
import Derived.Test.YtlofbalilhohmaaSz2
set_option linter.unusedVariables false
set_option linter.unusedSimpArgs false
set_option linter.unusedSectionVars false

namespace Go.Proofs.Ytlofbalilhohmaa
open Go Sz
set_option maxRecDepth 100000

/-- gosem.cut.init. -/
def c2 : AFun := ⟨1, [], false, (.reg [⟨(some 0), .call 1 [], none⟩])⟩
theorem ok2 : FnOK Try.prog 2 c2 := ⟨Try.f2, _, Try.func2, by kernel_rfl, rfl, by kernel_rfl, by kernel_rfl, by kernel_rfl⟩

/-- sizar/sizarlaw5.OpSides. -/
def c3_m0 : List Bool := [true, false, false, true, false, false, false, false, false, false, false, false, false, false, false, false, false, false, false, false, false, false, false, false, false, false, false, false, false, false, false, false, false, false, false, false, false, false, false, false, false, false, false, false, false, false, false, false, false, false, false, false, false, false, false, false, false, false, false, false, false, false, false, false, false, false, false, false, false, false, false, false, false, false, false, false, false, false, false, false, false, false, false, false, false, false, false, false, false, false, false, false, false, false, false, false, false, false, false, false, false, false, false, false, false, false, false, false, false, false, false, false, false, false, false, false, false, false, false, false, false, false, false]
abbrev c3_f0 (v0 v3 : AV) : List AV := [v0, .undef, .undef, v3, .undef, .undef, .undef, .undef, .undef, .undef, .undef, .undef, .undef, .undef, .undef, .undef, .undef, .undef, .undef, .undef, .undef, .undef, .undef, .undef, .undef, .undef, .undef, .undef, .undef, .undef, .undef, .undef, .undef, .undef, .undef, .undef, .undef, .undef, .undef, .undef, .undef, .undef, .undef, .undef, .undef, .undef, .undef, .undef, .undef, .undef, .undef, .undef, .undef, .undef, .undef, .undef, .undef, .undef, .undef, .undef, .undef, .undef, .undef, .undef, .undef, .undef, .undef, .undef, .undef, .undef, .undef, .undef, .undef, .undef, .undef, .undef, .undef, .undef, .undef, .undef, .undef, .undef, .undef, .undef, .undef, .undef, .undef, .undef, .undef, .undef, .undef, .undef, .undef, .undef, .undef, .undef, .undef, .undef, .undef, .undef, .undef, .undef, .undef, .undef, .undef, .undef, .undef, .undef, .undef, .undef, .undef, .undef, .undef, .undef, .undef, .undef, .undef, .undef, .undef, .undef, .undef, .undef, .undef]
def c3_b0 : ACode := (.seq (.seq (.reg [⟨(some 21), .op (.mov (.tmp 3)), none⟩,
   ⟨(some 22), .op (.mov (.tmp 0)), none⟩,
   ⟨(some 23), .op (.lenv (.tmp 22)), none⟩,
   ⟨(some 24), .op (.bin .lss (.tmp 21) (.tmp 23)), none⟩])
 (.cond (.tmp 24) .skip
 (.exit 0 [false, false, false, false, false, false, false, false, false, false, false, false, false, false, false, false, false, false, false, false, false, false, false, false, false, false, false, false, false, false, false, false, false, false, false, false, false, false, false, false, false, false, false, false, false, false, false, false, false, false, false, false, false, false, false, false, false, false, false, false, false, false, false, false, false, false, false, false, false, false, false, false, false, false, false, false, false, false, false, false, false, false, false, false, false, false, false, false, false, false, false, false, false, false, false, false, false, false, false, false, false, false, false, false, false, false, false, false, false, false, false, false, false, false, false, false, false, false, false, false, false, false, false])))
 (.seq (.block 1 (.seq (.reg [⟨(some 28), .op (.mov (.tmp 0)), none⟩,
    ⟨(some 29), .op (.mov (.tmp 3)), none⟩,
    ⟨(some 30), .op (.iad 3 (.tmp 28) (.tmp 29)), none⟩,
    ⟨(some 31), .op (.ld (some 3) (.tmp 30)), none⟩,
    ⟨(some 32), .call 9 [(.tmp 31)], none⟩,
    ⟨(some 27), .op (.mov (.tmp 32)), none⟩,
    ⟨(some 33), .op (.ext (.tmp 27) 0), none⟩,
    ⟨(some 34), .op (.ext (.tmp 27) 1), none⟩,
    ⟨(some 4), .op (.mov (.tmp 33)), none⟩,
    ⟨(some 5), .op (.mov (.tmp 34)), none⟩])
  (.seq (.reg [⟨(some 36), .op (.mov (.tmp 0)), none⟩,
    ⟨(some 37), .op (.bld [.nils] [(0, 1, (.tmp 36))]), none⟩,
    ⟨(some 38), .op (.mov (.tmp 0)), none⟩,
    ⟨(some 39), .op (.mov (.tmp 3)), none⟩,
    ⟨(some 40), .op (.iad 3 (.tmp 38) (.tmp 39)), none⟩,
    ⟨(some 41), .op (.fad 0 (.tmp 40)), none⟩,
    ⟨(some 42), .op (.ld none (.tmp 41)), none⟩,
    ⟨(some 43), .call 10 [(.tmp 37), (.tmp 42)], none⟩,
    ⟨(some 35), .op (.mov (.tmp 43)), none⟩,
    ⟨(some 44), .op (.ext (.tmp 35) 0), none⟩,
    ⟨(some 45), .op (.ext (.tmp 35) 1), none⟩,
    ⟨(some 6), .op (.box (.const (.agg [(.str []), (.str []), (.int .i64 0)]))), none⟩,
    ⟨none, .op (.st 3 (.tmp 6) (.tmp 44)), none⟩,
    ⟨(some 7), .op (.mov (.tmp 45)), none⟩])
  (.seq (.reg [⟨(some 47), .op (.mov (.tmp 0)), none⟩,
    ⟨(some 48), .op (.bld [.nils] [(0, 1, (.tmp 47))]), none⟩,
    ⟨(some 49), .op (.mov (.tmp 0)), none⟩,
    ⟨(some 50), .op (.mov (.tmp 3)), none⟩,
    ⟨(some 51), .op (.iad 3 (.tmp 49) (.tmp 50)), none⟩,
    ⟨(some 52), .op (.fad 0 (.tmp 51)), none⟩,
    ⟨(some 53), .op (.ld none (.tmp 52)), none⟩,
    ⟨(some 54), .call 11 [(.tmp 48), (.tmp 53)], none⟩,
    ⟨(some 46), .op (.mov (.tmp 54)), none⟩,
    ⟨(some 55), .op (.ext (.tmp 46) 0), none⟩,
    ⟨(some 56), .op (.ext (.tmp 46) 1), none⟩,
    ⟨(some 8), .op (.box (.const (.agg [(.str []), (.str []), (.int .i64 0)]))), none⟩,
    ⟨none, .op (.st 3 (.tmp 8) (.tmp 55)), none⟩,
    ⟨(some 9), .op (.mov (.tmp 56)), none⟩])
  (.seq (.reg [⟨(some 57), .op (.mov (.tmp 4)), none⟩,
    ⟨(some 58), .op (.mov (.tmp 0)), none⟩,
    ⟨(some 59), .op (.mov (.tmp 3)), none⟩,
    ⟨(some 60), .op (.iad 3 (.tmp 58) (.tmp 59)), none⟩,
    ⟨(some 61), .op (.fad 2 (.tmp 60)), none⟩,
    ⟨(some 62), .op (.ld none (.tmp 61)), none⟩,
    ⟨(some 63), .op (.bin .gtr (.tmp 57) (.tmp 62)), none⟩,
    ⟨(some 64), .op (.mov (.tmp 63)), none⟩,
    ⟨(some 65), .op (.mov (.tmp 5)), (some (64, false))⟩,
    ⟨(some 66), .op (.mov (.tmp 0)), (some (64, false))⟩,
    ⟨(some 67), .op (.mov (.tmp 3)), (some (64, false))⟩,
    ⟨(some 68), .op (.iad 3 (.tmp 66) (.tmp 67)), (some (64, false))⟩,
    ⟨(some 69), .op (.fad 2 (.tmp 68)), (some (64, false))⟩,
    ⟨(some 70), .op (.ld none (.tmp 69)), (some (64, false))⟩,
    ⟨(some 71), .op (.bin .gtr (.tmp 65) (.tmp 70)), (some (64, false))⟩,
    ⟨(some 72), .op (.pick (.tmp 64) (.const (.bool true)) (.tmp 71)), none⟩,
    ⟨(some 73), .op (.mov (.tmp 72)), none⟩,
    ⟨(some 74), .op (.mov (.tmp 4)), (some (73, false))⟩,
    ⟨(some 75), .op (.mov (.tmp 0)), (some (73, false))⟩,
    ⟨(some 76), .op (.mov (.tmp 3)), (some (73, false))⟩,
    ⟨(some 77), .op (.iad 3 (.tmp 75) (.tmp 76)), (some (73, false))⟩,
    ⟨(some 78), .op (.fad 2 (.tmp 77)), (some (73, false))⟩,
    ⟨(some 79), .op (.ld none (.tmp 78)), (some (73, false))⟩,
    ⟨(some 80), .op (.bin .eql (.tmp 74) (.tmp 79)), (some (73, false))⟩,
    ⟨(some 81), .op (.mov (.tmp 80)), (some (73, false))⟩,
    ⟨(some 82), .op (.mov (.tmp 5)), (some (81, true))⟩,
    ⟨(some 83), .op (.mov (.tmp 0)), (some (81, true))⟩,
    ⟨(some 84), .op (.mov (.tmp 3)), (some (81, true))⟩,
    ⟨(some 85), .op (.iad 3 (.tmp 83) (.tmp 84)), (some (81, true))⟩,
    ⟨(some 86), .op (.fad 2 (.tmp 85)), (some (81, true))⟩,
    ⟨(some 87), .op (.ld none (.tmp 86)), (some (81, true))⟩,
    ⟨(some 88), .op (.bin .eql (.tmp 82) (.tmp 87)), (some (81, true))⟩,
    ⟨(some 89), .op (.pick (.tmp 81) (.tmp 88) (.const (.bool false))), (some (73, false))⟩,
    ⟨(some 90), .op (.pick (.tmp 73) (.const (.bool true)) (.tmp 89)), none⟩,
    ⟨(some 91), .op (.mov (.tmp 90)), none⟩,
    ⟨(some 92), .op (.mov (.tmp 4)), (some (91, false))⟩,
    ⟨(some 93), .op (.bin .lss (.tmp 92) (.const (.int .i64 0))), (some (91, false))⟩,
    ⟨(some 94), .op (.pick (.tmp 91) (.const (.bool true)) (.tmp 93)), none⟩,
    ⟨(some 95), .op (.mov (.tmp 94)), none⟩,
    ⟨(some 96), .op (.mov (.tmp 5)), (some (95, false))⟩,
    ⟨(some 97), .op (.bin .lss (.tmp 96) (.const (.int .i64 0))), (some (95, false))⟩,
    ⟨(some 98), .op (.pick (.tmp 95) (.const (.bool true)) (.tmp 97)), none⟩,
    ⟨(some 99), .op (.mov (.tmp 98)), none⟩,
    ⟨(some 100), .op (.mov (.tmp 7)), (some (99, false))⟩,
    ⟨(some 101), .op (.mov (.tmp 100)), (some (99, false))⟩,
    ⟨(some 102), .op (.ld (some 3) (.tmp 6)), (some (101, true))⟩,
    ⟨(some 103), .op (.mov (.tmp 0)), (some (101, true))⟩,
    ⟨(some 104), .op (.mov (.tmp 3)), (some (101, true))⟩,
    ⟨(some 105), .op (.iad 3 (.tmp 103) (.tmp 104)), (some (101, true))⟩,
    ⟨(some 106), .op (.ld (some 3) (.tmp 105)), (some (101, true))⟩,
    ⟨(some 107), .op (.ceq [2, 2, 1] false (.tmp 102) (.tmp 106)), (some (101, true))⟩,
    ⟨(some 108), .op (.pick (.tmp 101) (.tmp 107) (.const (.bool false))), (some (99, false))⟩,
    ⟨(some 109), .op (.un .not (.tmp 108)), (some (99, false))⟩,
    ⟨(some 110), .op (.mov (.tmp 109)), (some (99, false))⟩,
    ⟨(some 111), .op (.mov (.tmp 9)), (some (110, true))⟩,
    ⟨(some 112), .op (.mov (.tmp 111)), (some (110, true))⟩,
    ⟨(some 113), .op (.ld (some 3) (.tmp 8)), (some (112, true))⟩,
    ⟨(some 114), .op (.mov (.tmp 0)), (some (112, true))⟩,
    ⟨(some 115), .op (.mov (.tmp 3)), (some (112, true))⟩,
    ⟨(some 116), .op (.iad 3 (.tmp 114) (.tmp 115)), (some (112, true))⟩,
    ⟨(some 117), .op (.ld (some 3) (.tmp 116)), (some (112, true))⟩,
    ⟨(some 118), .op (.ceq [2, 2, 1] false (.tmp 113) (.tmp 117)), (some (112, true))⟩,
    ⟨(some 119), .op (.pick (.tmp 112) (.tmp 118) (.const (.bool false))), (some (110, true))⟩,
    ⟨(some 120), .op (.un .not (.tmp 119)), (some (110, true))⟩,
    ⟨(some 121), .op (.pick (.tmp 110) (.tmp 120) (.const (.bool false))), (some (99, false))⟩,
    ⟨(some 122), .op (.pick (.tmp 99) (.const (.bool true)) (.tmp 121)), none⟩])
  (.cond (.tmp 122) (.seq (.reg [⟨(some 2), .op (.mov (.const (.bool false))), none⟩])
   (.ret [false, false, true, false, false, false, false, false, false, false, false, false, false, false, false, false, false, false, false, false, false, false, false, false, false, false, false, false, false, false, false, false, false, false, false, false, false, false, false, false, false, false, false, false, false, false, false, false, false, false, false, false, false, false, false, false, false, false, false, false, false, false, false, false, false, false, false, false, false, false, false, false, false, false, false, false, false, false, false, false, false, false, false, false, false, false, false, false, false, false, false, false, false, false, false, false, false, false, false, false, false, false, false, false, false, false, false, false, false, false, false, false, false, false, false, false, false, false, false, false, false, false, false]))
  .skip))))))
 (.reg [⟨(some 25), .op (.mov (.tmp 3)), none⟩,
   ⟨(some 26), .op (.bin .add (.tmp 25) (.const (.int .i64 1))), none⟩,
   ⟨(some 3), .op (.mov (.tmp 26)), none⟩])))
def c3 : AFun := ⟨123, [.tmp 2], false, (.seq (.reg [⟨(some 2), .op (.mov (.const (.bool false))), none⟩])
 (.seq (.seq (.reg [⟨(some 10), .call 7 [], none⟩,
   ⟨(some 11), .op (.un .not (.tmp 10)), none⟩])
 (.cond (.tmp 11) (.seq (.reg [⟨(some 2), .op (.mov (.const (.bool false))), none⟩])
  (.ret [false, false, true, false, false, false, false, false, false, false, false, false, false, false, false, false, false, false, false, false, false, false, false, false, false, false, false, false, false, false, false, false, false, false, false, false, false, false, false, false, false, false, false, false, false, false, false, false, false, false, false, false, false, false, false, false, false, false, false, false, false, false, false, false, false, false, false, false, false, false, false, false, false, false, false, false, false, false, false, false, false, false, false, false, false, false, false, false, false, false, false, false, false, false, false, false, false, false, false, false, false, false, false, false, false, false, false, false, false, false, false, false, false, false, false, false, false, false, false, false, false, false, false]))
 .skip))
 (.seq (.seq (.reg [⟨(some 12), .op (.mov (.tmp 0)), none⟩,
   ⟨(some 13), .op (.lenv (.tmp 12)), none⟩,
   ⟨(some 14), .op (.bin .gtr (.tmp 13) (.const (.int .i64 100))), none⟩,
   ⟨(some 15), .op (.mov (.tmp 14)), none⟩,
   ⟨(some 16), .op (.mov (.tmp 0)), (some (15, false))⟩,
   ⟨(some 17), .op (.bld [.nils] [(0, 1, (.tmp 16))]), (some (15, false))⟩,
   ⟨(some 18), .call 8 [(.tmp 17)], (some (15, false))⟩,
   ⟨(some 19), .op (.un .not (.tmp 18)), (some (15, false))⟩,
   ⟨(some 20), .op (.pick (.tmp 15) (.const (.bool true)) (.tmp 19)), none⟩])
 (.cond (.tmp 20) (.seq (.reg [⟨(some 2), .op (.mov (.const (.bool true))), none⟩])
  (.ret [false, false, true, false, false, false, false, false, false, false, false, false, false, false, false, false, false, false, false, false, false, false, false, false, false, false, false, false, false, false, false, false, false, false, false, false, false, false, false, false, false, false, false, false, false, false, false, false, false, false, false, false, false, false, false, false, false, false, false, false, false, false, false, false, false, false, false, false, false, false, false, false, false, false, false, false, false, false, false, false, false, false, false, false, false, false, false, false, false, false, false, false, false, false, false, false, false, false, false, false, false, false, false, false, false, false, false, false, false, false, false, false, false, false, false, false, false, false, false, false, false, false, false]))
 .skip))
 (.seq (.seq (.reg [⟨(some 3), .op (.mov (.const (.int .i64 0))), none⟩])
 (.block 0 (.loop c3_m0 c3_b0)))
 (.seq (.reg [⟨(some 2), .op (.mov (.const (.bool true))), none⟩])
 (.ret [false, false, true, false, false, false, false, false, false, false, false, false, false, false, false, false, false, false, false, false, false, false, false, false, false, false, false, false, false, false, false, false, false, false, false, false, false, false, false, false, false, false, false, false, false, false, false, false, false, false, false, false, false, false, false, false, false, false, false, false, false, false, false, false, false, false, false, false, false, false, false, false, false, false, false, false, false, false, false, false, false, false, false, false, false, false, false, false, false, false, false, false, false, false, false, false, false, false, false, false, false, false, false, false, false, false, false, false, false, false, false, false, false, false, false, false, false, false, false, false, false, false, false]))))))⟩
theorem ok3 : FnOK Try.prog 3 c3 := ⟨Try.f3, _, Try.func3, by kernel_rfl, rfl, by kernel_rfl, by kernel_rfl, by kernel_rfl⟩

/-- sizar/sizarlaw5.OpKnown. -/
def c4 : AFun := ⟨239, [.tmp 0], false, (.seq (.reg [⟨(some 0), .op (.mov (.const (.bool false))), none⟩])
 (.seq (.seq (.reg [⟨(some 34), .call 7 [], none⟩,
   ⟨(some 35), .op (.un .not (.tmp 34)), none⟩])
 (.cond (.tmp 35) (.seq (.reg [⟨(some 0), .op (.mov (.const (.bool false))), none⟩])
  (.ret [true, false, false, false, false, false, false, false, false, false, false, false, false, false, false, false, false, false, false, false, false, false, false, false, false, false, false, false, false, false, false, false, false, false, false, false, false, false, false, false, false, false, false, false, false, false, false, false, false, false, false, false, false, false, false, false, false, false, false, false, false, false, false, false, false, false, false, false, false, false, false, false, false, false, false, false, false, false, false, false, false, false, false, false, false, false, false, false, false, false, false, false, false, false, false, false, false, false, false, false, false, false, false, false, false, false, false, false, false, false, false, false, false, false, false, false, false, false, false, false, false, false, false, false, false, false, false, false, false, false, false, false, false, false, false, false, false, false, false, false, false, false, false, false, false, false, false, false, false, false, false, false, false, false, false, false, false, false, false, false, false, false, false, false, false, false, false, false, false, false, false, false, false, false, false, false, false, false, false, false, false, false, false, false, false, false, false, false, false, false, false, false, false, false, false, false, false, false, false, false, false, false, false, false, false, false, false, false, false, false, false, false, false, false, false, false, false, false, false, false, false, false, false, false, false, false, false, false, false, false, false, false, false, false, false, false, false, false, false]))
 .skip))
 (.seq (.reg [⟨(some 36), .call 12 [], none⟩,
   ⟨(some 1), .op (.box (.const (.agg [.nils]))), none⟩,
   ⟨none, .op (.st 1 (.tmp 1) (.tmp 36)), none⟩])
 (.seq (.reg [⟨(some 38), .op (.ld (some 1) (.tmp 1)), none⟩,
   ⟨(some 39), .call 10 [(.tmp 38), (.const (.str [45]))], none⟩,
   ⟨(some 37), .op (.mov (.tmp 39)), none⟩,
   ⟨(some 40), .op (.ext (.tmp 37) 0), none⟩,
   ⟨(some 41), .op (.ext (.tmp 37) 1), none⟩,
   ⟨(some 2), .op (.box (.const (.agg [(.str []), (.str []), (.int .i64 0)]))), none⟩,
   ⟨none, .op (.st 3 (.tmp 2) (.tmp 40)), none⟩,
   ⟨(some 3), .op (.mov (.tmp 41)), none⟩])
 (.seq (.reg [⟨(some 43), .op (.ld (some 1) (.tmp 1)), none⟩,
   ⟨(some 44), .call 10 [(.tmp 43), (.const (.str [42]))], none⟩,
   ⟨(some 42), .op (.mov (.tmp 44)), none⟩,
   ⟨(some 45), .op (.ext (.tmp 42) 0), none⟩,
   ⟨(some 46), .op (.ext (.tmp 42) 1), none⟩,
   ⟨(some 4), .op (.box (.const (.agg [(.str []), (.str []), (.int .i64 0)]))), none⟩,
   ⟨none, .op (.st 3 (.tmp 4) (.tmp 45)), none⟩,
   ⟨(some 5), .op (.mov (.tmp 46)), none⟩])
 (.seq (.reg [⟨(some 48), .op (.ld (some 1) (.tmp 1)), none⟩,
   ⟨(some 49), .call 11 [(.tmp 48), (.const (.str [92, 43]))], none⟩,
   ⟨(some 47), .op (.mov (.tmp 49)), none⟩,
   ⟨(some 50), .op (.ext (.tmp 47) 0), none⟩,
   ⟨(some 51), .op (.ext (.tmp 47) 1), none⟩,
   ⟨(some 6), .op (.box (.const (.agg [(.str []), (.str []), (.int .i64 0)]))), none⟩,
   ⟨none, .op (.st 3 (.tmp 6) (.tmp 50)), none⟩,
   ⟨(some 7), .op (.mov (.tmp 51)), none⟩])
 (.seq (.reg [⟨(some 53), .op (.ld (some 1) (.tmp 1)), none⟩,
   ⟨(some 54), .op (.bld [(.str []), (.str []), (.int .i64 0)] [(0, 1, (.const (.str [44]))), (1, 1, (.const (.str [120, 102, 121]))), (2, 1, (.const (.int .i64 1000)))]), none⟩,
   ⟨(some 55), .call 13 [(.tmp 53), (.tmp 54)], none⟩,
   ⟨(some 52), .op (.mov (.tmp 55)), none⟩,
   ⟨(some 56), .op (.ext (.tmp 52) 0), none⟩,
   ⟨(some 57), .op (.ext (.tmp 52) 1), none⟩,
   ⟨(some 8), .op (.box (.const (.agg [.nils]))), none⟩,
   ⟨none, .op (.st 1 (.tmp 8) (.tmp 56)), none⟩,
   ⟨(some 9), .op (.mov (.tmp 57)), none⟩])
 (.seq (.reg [⟨(some 59), .op (.ld (some 1) (.tmp 1)), none⟩,
   ⟨(some 60), .op (.bld [(.str []), (.str []), (.int .i64 0)] [(0, 1, (.const (.str []))), (1, 1, (.const (.str [120, 102, 120]))), (2, 1, (.const (.int .i64 1)))]), none⟩,
   ⟨(some 61), .call 13 [(.tmp 59), (.tmp 60)], none⟩,
   ⟨(some 58), .op (.mov (.tmp 61)), none⟩,
   ⟨(some 62), .op (.ext (.tmp 58) 0), none⟩,
   ⟨(some 63), .op (.ext (.tmp 58) 1), none⟩,
   ⟨(some 10), .op (.box (.const (.agg [.nils]))), none⟩,
   ⟨none, .op (.st 1 (.tmp 10) (.tmp 62)), none⟩,
   ⟨(some 11), .op (.mov (.tmp 63)), none⟩])
 (.seq (.reg [⟨(some 65), .op (.ld (some 1) (.tmp 1)), none⟩,
   ⟨(some 66), .op (.bld [(.str []), (.str []), (.int .i64 0)] [(0, 1, (.const (.str [97]))), (1, 1, (.const (.str [120, 102]))), (2, 1, (.const (.int .i64 1)))]), none⟩,
   ⟨(some 67), .call 13 [(.tmp 65), (.tmp 66)], none⟩,
   ⟨(some 64), .op (.mov (.tmp 67)), none⟩,
   ⟨(some 68), .op (.ext (.tmp 64) 0), none⟩,
   ⟨(some 69), .op (.ext (.tmp 64) 1), none⟩,
   ⟨(some 12), .op (.box (.const (.agg [.nils]))), none⟩,
   ⟨none, .op (.st 1 (.tmp 12) (.tmp 68)), none⟩,
   ⟨(some 13), .op (.mov (.tmp 69)), none⟩])
 (.seq (.reg [⟨(some 71), .op (.ld (some 1) (.tmp 1)), none⟩,
   ⟨(some 72), .op (.bld [(.str []), (.str []), (.int .i64 0)] [(0, 1, (.const (.str [97]))), (1, 1, (.const (.str [120, 102, 120]))), (2, 1, (.const (.int .i64 1201)))]), none⟩,
   ⟨(some 73), .call 13 [(.tmp 71), (.tmp 72)], none⟩,
   ⟨(some 70), .op (.mov (.tmp 73)), none⟩,
   ⟨(some 74), .op (.ext (.tmp 70) 0), none⟩,
   ⟨(some 75), .op (.ext (.tmp 70) 1), none⟩,
   ⟨(some 14), .op (.box (.const (.agg [.nils]))), none⟩,
   ⟨none, .op (.st 1 (.tmp 14) (.tmp 74)), none⟩,
   ⟨(some 15), .op (.mov (.tmp 75)), none⟩])
 (.seq (.reg [⟨(some 77), .op (.ld (some 1) (.tmp 1)), none⟩,
   ⟨(some 78), .op (.bld [(.str []), (.str []), (.int .i64 0)] [(0, 1, (.const (.str [97]))), (1, 1, (.const (.str [120, 102, 120]))), (2, 1, (.const (.int .i64 0)))]), none⟩,
   ⟨(some 79), .call 13 [(.tmp 77), (.tmp 78)], none⟩,
   ⟨(some 76), .op (.mov (.tmp 79)), none⟩,
   ⟨(some 80), .op (.ext (.tmp 76) 0), none⟩,
   ⟨(some 81), .op (.ext (.tmp 76) 1), none⟩,
   ⟨(some 16), .op (.box (.const (.agg [.nils]))), none⟩,
   ⟨none, .op (.st 1 (.tmp 16) (.tmp 80)), none⟩,
   ⟨(some 17), .op (.mov (.tmp 81)), none⟩])
 (.seq (.reg [⟨(some 83), .op (.ld (some 1) (.tmp 1)), none⟩,
   ⟨(some 84), .op (.bld [(.str []), (.str []), (.int .i64 0)] [(0, 1, (.const (.str [124]))), (1, 1, (.const (.str [120, 102, 120]))), (2, 1, (.const (.int .i64 5)))]), none⟩,
   ⟨(some 85), .call 13 [(.tmp 83), (.tmp 84)], none⟩,
   ⟨(some 82), .op (.mov (.tmp 85)), none⟩,
   ⟨(some 86), .op (.ext (.tmp 82) 0), none⟩,
   ⟨(some 87), .op (.ext (.tmp 82) 1), none⟩,
   ⟨(some 18), .op (.box (.const (.agg [.nils]))), none⟩,
   ⟨none, .op (.st 1 (.tmp 18) (.tmp 86)), none⟩,
   ⟨(some 19), .op (.mov (.tmp 87)), none⟩])
 (.seq (.reg [⟨(some 89), .op (.ld (some 1) (.tmp 1)), none⟩,
   ⟨(some 90), .op (.bld [(.str []), (.str []), (.int .i64 0)] [(0, 1, (.const (.str [43]))), (1, 1, (.const (.str [120, 102, 121]))), (2, 1, (.const (.int .i64 300)))]), none⟩,
   ⟨(some 91), .call 13 [(.tmp 89), (.tmp 90)], none⟩,
   ⟨(some 88), .op (.mov (.tmp 91)), none⟩,
   ⟨(some 92), .op (.ext (.tmp 88) 0), none⟩,
   ⟨(some 93), .op (.ext (.tmp 88) 1), none⟩,
   ⟨(some 20), .op (.box (.const (.agg [.nils]))), none⟩,
   ⟨none, .op (.st 1 (.tmp 20) (.tmp 92)), none⟩,
   ⟨(some 21), .op (.mov (.tmp 93)), none⟩])
 (.seq (.reg [⟨(some 95), .op (.ld (some 1) (.tmp 1)), none⟩,
   ⟨(some 96), .op (.bld [(.str []), (.str []), (.int .i64 0)] [(0, 1, (.const (.str [43]))), (1, 1, (.const (.str [102, 121]))), (2, 1, (.const (.int .i64 200)))]), none⟩,
   ⟨(some 97), .call 13 [(.tmp 95), (.tmp 96)], none⟩,
   ⟨(some 94), .op (.mov (.tmp 97)), none⟩,
   ⟨(some 98), .op (.ext (.tmp 94) 0), none⟩,
   ⟨(some 99), .op (.ext (.tmp 94) 1), none⟩,
   ⟨(some 22), .op (.box (.const (.agg [.nils]))), none⟩,
   ⟨none, .op (.st 1 (.tmp 22) (.tmp 98)), none⟩,
   ⟨(some 23), .op (.mov (.tmp 99)), none⟩])
 (.seq (.reg [⟨(some 101), .op (.ld (some 1) (.tmp 1)), none⟩,
   ⟨(some 102), .op (.bld [(.str []), (.str []), (.int .i64 0)] [(0, 1, (.const (.str [43]))), (1, 1, (.const (.str [120, 102, 120]))), (2, 1, (.const (.int .i64 0)))]), none⟩,
   ⟨(some 103), .call 13 [(.tmp 101), (.tmp 102)], none⟩,
   ⟨(some 100), .op (.mov (.tmp 103)), none⟩,
   ⟨(some 104), .op (.ext (.tmp 100) 0), none⟩,
   ⟨(some 105), .op (.ext (.tmp 100) 1), none⟩,
   ⟨(some 24), .op (.box (.const (.agg [.nils]))), none⟩,
   ⟨none, .op (.st 1 (.tmp 24) (.tmp 104)), none⟩,
   ⟨(some 25), .op (.mov (.tmp 105)), none⟩])
 (.seq (.reg [⟨(some 107), .op (.bld [(.str []), (.str []), (.int .i64 0)] []), none⟩,
   ⟨(some 108), .op (.bsl 3 1 [(.str []), (.str []), (.int .i64 0)] [(0, (.tmp 107))]), none⟩,
   ⟨(some 109), .op (.bld [.nils] [(0, 1, (.tmp 108))]), none⟩,
   ⟨(some 110), .op (.bld [(.str []), (.str []), (.int .i64 0)] [(0, 1, (.const (.str [97]))), (1, 1, (.const (.str [120, 102, 120]))), (2, 1, (.const (.int .i64 5)))]), none⟩,
   ⟨(some 111), .call 13 [(.tmp 109), (.tmp 110)], none⟩,
   ⟨(some 106), .op (.mov (.tmp 111)), none⟩,
   ⟨(some 112), .op (.ext (.tmp 106) 0), none⟩,
   ⟨(some 113), .op (.ext (.tmp 106) 1), none⟩,
   ⟨(some 26), .op (.box (.const (.agg [.nils]))), none⟩,
   ⟨none, .op (.st 1 (.tmp 26) (.tmp 112)), none⟩,
   ⟨(some 27), .op (.mov (.tmp 113)), none⟩])
 (.seq (.reg [⟨(some 115), .op (.bld [(.str []), (.str []), (.int .i64 0)] [(1, 1, (.const (.str [102, 120]))), (2, 1, (.const (.int .i64 10)))]), none⟩,
   ⟨(some 116), .call 9 [(.tmp 115)], none⟩,
   ⟨(some 114), .op (.mov (.tmp 116)), none⟩,
   ⟨(some 117), .op (.ext (.tmp 114) 0), none⟩,
   ⟨(some 118), .op (.ext (.tmp 114) 1), none⟩,
   ⟨(some 28), .op (.mov (.tmp 117)), none⟩,
   ⟨(some 29), .op (.mov (.tmp 118)), none⟩])
 (.seq (.reg [⟨(some 120), .op (.bld [(.str []), (.str []), (.int .i64 0)] [(1, 1, (.const (.str [63]))), (2, 1, (.const (.int .i64 10)))]), none⟩,
   ⟨(some 121), .call 9 [(.tmp 120)], none⟩,
   ⟨(some 119), .op (.mov (.tmp 121)), none⟩,
   ⟨(some 122), .op (.ext (.tmp 119) 0), none⟩,
   ⟨(some 123), .op (.ext (.tmp 119) 1), none⟩,
   ⟨(some 30), .op (.mov (.tmp 122)), none⟩,
   ⟨(some 31), .op (.mov (.tmp 123)), none⟩])
 (.seq (.reg [⟨(some 125), .op (.ld (some 1) (.tmp 20)), none⟩,
   ⟨(some 126), .call 11 [(.tmp 125), (.const (.str [43]))], none⟩,
   ⟨(some 124), .op (.mov (.tmp 126)), none⟩,
   ⟨(some 127), .op (.ext (.tmp 124) 0), none⟩,
   ⟨(some 128), .op (.ext (.tmp 124) 1), none⟩,
   ⟨(some 32), .op (.box (.const (.agg [(.str []), (.str []), (.int .i64 0)]))), none⟩,
   ⟨none, .op (.st 3 (.tmp 32) (.tmp 127)), none⟩,
   ⟨(some 33), .op (.mov (.tmp 128)), none⟩])
 (.seq (.reg [⟨(some 129), .op (.ld (some 1) (.tmp 1)), none⟩,
   ⟨(some 130), .call 15 [(.tmp 129)], none⟩,
   ⟨(some 131), .call 16 [], none⟩,
   ⟨(some 132), .call 14 [(.tmp 130), (.tmp 131)], none⟩,
   ⟨(some 133), .op (.mov (.tmp 132)), none⟩,
   ⟨(some 134), .op (.mov (.tmp 3)), (some (133, true))⟩,
   ⟨(some 135), .op (.pick (.tmp 133) (.tmp 134) (.const (.bool false))), none⟩,
   ⟨(some 136), .op (.mov (.tmp 135)), none⟩,
   ⟨(some 137), .op (.fad 2 (.tmp 2)), (some (136, true))⟩,
   ⟨(some 138), .op (.ld none (.tmp 137)), (some (136, true))⟩,
   ⟨(some 139), .op (.bin .eql (.tmp 138) (.const (.int .i64 200))), (some (136, true))⟩,
   ⟨(some 140), .op (.pick (.tmp 136) (.tmp 139) (.const (.bool false))), none⟩,
   ⟨(some 141), .op (.mov (.tmp 140)), none⟩,
   ⟨(some 142), .op (.mov (.tmp 5)), (some (141, true))⟩,
   ⟨(some 143), .op (.un .not (.tmp 142)), (some (141, true))⟩,
   ⟨(some 144), .op (.pick (.tmp 141) (.tmp 143) (.const (.bool false))), none⟩,
   ⟨(some 145), .op (.mov (.tmp 144)), none⟩,
   ⟨(some 146), .op (.mov (.tmp 7)), (some (145, true))⟩,
   ⟨(some 147), .op (.un .not (.tmp 146)), (some (145, true))⟩,
   ⟨(some 148), .op (.pick (.tmp 145) (.tmp 147) (.const (.bool false))), none⟩,
   ⟨(some 149), .op (.mov (.tmp 148)), none⟩,
   ⟨(some 150), .op (.mov (.tmp 9)), (some (149, true))⟩,
   ⟨(some 151), .op (.bin .eql (.tmp 150) (.const (.int .i64 8))), (some (149, true))⟩,
   ⟨(some 152), .op (.pick (.tmp 149) (.tmp 151) (.const (.bool false))), none⟩,
   ⟨(some 153), .op (.mov (.tmp 152)), none⟩,
   ⟨(some 154), .op (.mov (.tmp 11)), (some (153, true))⟩,
   ⟨(some 155), .op (.bin .eql (.tmp 154) (.const (.int .i64 1))), (some (153, true))⟩,
   ⟨(some 156), .op (.pick (.tmp 153) (.tmp 155) (.const (.bool false))), none⟩,
   ⟨(some 157), .op (.mov (.tmp 156)), none⟩,
   ⟨(some 158), .op (.mov (.tmp 13)), (some (157, true))⟩,
   ⟨(some 159), .op (.bin .eql (.tmp 158) (.const (.int .i64 1))), (some (157, true))⟩,
   ⟨(some 160), .op (.pick (.tmp 157) (.tmp 159) (.const (.bool false))), none⟩,
   ⟨(some 161), .op (.mov (.tmp 160)), none⟩,
   ⟨(some 162), .op (.mov (.tmp 15)), (some (161, true))⟩,
   ⟨(some 163), .op (.bin .eql (.tmp 162) (.const (.int .i64 1))), (some (161, true))⟩,
   ⟨(some 164), .op (.pick (.tmp 161) (.tmp 163) (.const (.bool false))), none⟩,
   ⟨(some 165), .op (.mov (.tmp 164)), none⟩,
   ⟨(some 166), .op (.mov (.tmp 17)), (some (165, true))⟩,
   ⟨(some 167), .op (.bin .eql (.tmp 166) (.const (.int .i64 13))), (some (165, true))⟩,
   ⟨(some 168), .op (.pick (.tmp 165) (.tmp 167) (.const (.bool false))), none⟩,
   ⟨(some 169), .op (.mov (.tmp 168)), none⟩,
   ⟨(some 170), .op (.mov (.tmp 19)), (some (169, true))⟩,
   ⟨(some 171), .op (.bin .eql (.tmp 170) (.const (.int .i64 1))), (some (169, true))⟩,
   ⟨(some 172), .op (.pick (.tmp 169) (.tmp 171) (.const (.bool false))), none⟩,
   ⟨(some 173), .op (.mov (.tmp 172)), none⟩,
   ⟨(some 174), .op (.mov (.tmp 21)), (some (173, true))⟩,
   ⟨(some 175), .op (.bin .eql (.tmp 174) (.const (.int .i64 0))), (some (173, true))⟩,
   ⟨(some 176), .op (.pick (.tmp 173) (.tmp 175) (.const (.bool false))), none⟩,
   ⟨(some 177), .op (.mov (.tmp 176)), none⟩,
   ⟨(some 178), .op (.fad 0 (.tmp 20)), (some (177, true))⟩,
   ⟨(some 179), .op (.ld none (.tmp 178)), (some (177, true))⟩,
   ⟨(some 180), .op (.lenv (.tmp 179)), (some (177, true))⟩,
   ⟨(some 181), .op (.fad 0 (.tmp 1)), (some (177, true))⟩,
   ⟨(some 182), .op (.ld none (.tmp 181)), (some (177, true))⟩,
   ⟨(some 183), .op (.lenv (.tmp 182)), (some (177, true))⟩,
   ⟨(some 184), .op (.bin .eql (.tmp 180) (.tmp 183)), (some (177, true))⟩,
   ⟨(some 185), .op (.pick (.tmp 177) (.tmp 184) (.const (.bool false))), none⟩,
   ⟨(some 186), .op (.mov (.tmp 185)), none⟩,
   ⟨(some 187), .op (.fad 2 (.tmp 32)), (some (186, true))⟩,
   ⟨(some 188), .op (.ld none (.tmp 187)), (some (186, true))⟩,
   ⟨(some 189), .op (.bin .eql (.tmp 188) (.const (.int .i64 300))), (some (186, true))⟩,
   ⟨(some 190), .op (.pick (.tmp 186) (.tmp 189) (.const (.bool false))), none⟩,
   ⟨(some 191), .op (.mov (.tmp 190)), none⟩,
   ⟨(some 192), .op (.mov (.tmp 23)), (some (191, true))⟩,
   ⟨(some 193), .op (.bin .eql (.tmp 192) (.const (.int .i64 0))), (some (191, true))⟩,
   ⟨(some 194), .op (.pick (.tmp 191) (.tmp 193) (.const (.bool false))), none⟩,
   ⟨(some 195), .op (.mov (.tmp 194)), none⟩,
   ⟨(some 196), .op (.fad 0 (.tmp 22)), (some (195, true))⟩,
   ⟨(some 197), .op (.ld none (.tmp 196)), (some (195, true))⟩,
   ⟨(some 198), .op (.lenv (.tmp 197)), (some (195, true))⟩,
   ⟨(some 199), .op (.fad 0 (.tmp 1)), (some (195, true))⟩,
   ⟨(some 200), .op (.ld none (.tmp 199)), (some (195, true))⟩,
   ⟨(some 201), .op (.lenv (.tmp 200)), (some (195, true))⟩,
   ⟨(some 202), .op (.bin .add (.tmp 201) (.const (.int .i64 1))), (some (195, true))⟩,
   ⟨(some 203), .op (.bin .eql (.tmp 198) (.tmp 202)), (some (195, true))⟩,
   ⟨(some 204), .op (.pick (.tmp 195) (.tmp 203) (.const (.bool false))), none⟩,
   ⟨(some 205), .op (.mov (.tmp 204)), none⟩,
   ⟨(some 206), .op (.mov (.tmp 25)), (some (205, true))⟩,
   ⟨(some 207), .op (.bin .eql (.tmp 206) (.const (.int .i64 0))), (some (205, true))⟩,
   ⟨(some 208), .op (.pick (.tmp 205) (.tmp 207) (.const (.bool false))), none⟩,
   ⟨(some 209), .op (.mov (.tmp 208)), none⟩,
   ⟨(some 210), .op (.fad 0 (.tmp 24)), (some (209, true))⟩,
   ⟨(some 211), .op (.ld none (.tmp 210)), (some (209, true))⟩,
   ⟨(some 212), .op (.lenv (.tmp 211)), (some (209, true))⟩,
   ⟨(some 213), .op (.fad 0 (.tmp 1)), (some (209, true))⟩,
   ⟨(some 214), .op (.ld none (.tmp 213)), (some (209, true))⟩,
   ⟨(some 215), .op (.lenv (.tmp 214)), (some (209, true))⟩,
   ⟨(some 216), .op (.bin .sub (.tmp 215) (.const (.int .i64 1))), (some (209, true))⟩,
   ⟨(some 217), .op (.bin .eql (.tmp 212) (.tmp 216)), (some (209, true))⟩,
   ⟨(some 218), .op (.pick (.tmp 209) (.tmp 217) (.const (.bool false))), none⟩,
   ⟨(some 219), .op (.mov (.tmp 218)), none⟩,
   ⟨(some 220), .op (.mov (.tmp 27)), (some (219, true))⟩,
   ⟨(some 221), .op (.bin .eql (.tmp 220) (.const (.int .i64 1))), (some (219, true))⟩,
   ⟨(some 222), .op (.pick (.tmp 219) (.tmp 221) (.const (.bool false))), none⟩,
   ⟨(some 223), .op (.mov (.tmp 222)), none⟩,
   ⟨(some 224), .op (.mov (.tmp 28)), (some (223, true))⟩,
   ⟨(some 225), .op (.bin .eql (.tmp 224) (.const (.int .i64 0))), (some (223, true))⟩,
   ⟨(some 226), .op (.pick (.tmp 223) (.tmp 225) (.const (.bool false))), none⟩,
   ⟨(some 227), .op (.mov (.tmp 226)), none⟩,
   ⟨(some 228), .op (.mov (.tmp 29)), (some (227, true))⟩,
   ⟨(some 229), .op (.bin .eql (.tmp 228) (.const (.int .i64 9))), (some (227, true))⟩,
   ⟨(some 230), .op (.pick (.tmp 227) (.tmp 229) (.const (.bool false))), none⟩,
   ⟨(some 231), .op (.mov (.tmp 230)), none⟩,
   ⟨(some 232), .op (.mov (.tmp 30)), (some (231, true))⟩,
   ⟨(some 233), .op (.bin .eql (.tmp 232) (.const (.int .i64 0))), (some (231, true))⟩,
   ⟨(some 234), .op (.pick (.tmp 231) (.tmp 233) (.const (.bool false))), none⟩,
   ⟨(some 235), .op (.mov (.tmp 234)), none⟩,
   ⟨(some 236), .op (.mov (.tmp 31)), (some (235, true))⟩,
   ⟨(some 237), .op (.bin .eql (.tmp 236) (.const (.int .i64 0))), (some (235, true))⟩,
   ⟨(some 238), .op (.pick (.tmp 235) (.tmp 237) (.const (.bool false))), none⟩,
   ⟨(some 0), .op (.mov (.tmp 238)), none⟩])
 (.ret [true, false, false, false, false, false, false, false, false, false, false, false, false, false, false, false, false, false, false, false, false, false, false, false, false, false, false, false, false, false, false, false, false, false, false, false, false, false, false, false, false, false, false, false, false, false, false, false, false, false, false, false, false, false, false, false, false, false, false, false, false, false, false, false, false, false, false, false, false, false, false, false, false, false, false, false, false, false, false, false, false, false, false, false, false, false, false, false, false, false, false, false, false, false, false, false, false, false, false, false, false, false, false, false, false, false, false, false, false, false, false, false, false, false, false, false, false, false, false, false, false, false, false, false, false, false, false, false, false, false, false, false, false, false, false, false, false, false, false, false, false, false, false, false, false, false, false, false, false, false, false, false, false, false, false, false, false, false, false, false, false, false, false, false, false, false, false, false, false, false, false, false, false, false, false, false, false, false, false, false, false, false, false, false, false, false, false, false, false, false, false, false, false, false, false, false, false, false, false, false, false, false, false, false, false, false, false, false, false, false, false, false, false, false, false, false, false, false, false, false, false, false, false, false, false, false, false, false, false, false, false, false, false, false, false, false, false, false, false])))))))))))))))))))))⟩
theorem ok4 : FnOK Try.prog 4 c4 := ⟨Try.f4, _, Try.func4, by kernel_rfl, rfl, by kernel_rfl, by kernel_rfl, by kernel_rfl⟩

/-- sizar/sizarlaw5.OpSays. -/
def c5 : AFun := ⟨150, [.tmp 6], false, (.seq (.reg [⟨(some 4), .op (.box (.tmp 1)), none⟩,
   ⟨(some 6), .op (.mov (.const (.bool false))), none⟩])
 (.seq (.seq (.reg [⟨(some 25), .call 7 [], none⟩,
   ⟨(some 26), .op (.un .not (.tmp 25)), none⟩])
 (.cond (.tmp 26) (.seq (.reg [⟨(some 6), .op (.mov (.const (.bool false))), none⟩])
  (.ret [false, false, false, false, false, false, true, false, false, false, false, false, false, false, false, false, false, false, false, false, false, false, false, false, false, false, false, false, false, false, false, false, false, false, false, false, false, false, false, false, false, false, false, false, false, false, false, false, false, false, false, false, false, false, false, false, false, false, false, false, false, false, false, false, false, false, false, false, false, false, false, false, false, false, false, false, false, false, false, false, false, false, false, false, false, false, false, false, false, false, false, false, false, false, false, false, false, false, false, false, false, false, false, false, false, false, false, false, false, false, false, false, false, false, false, false, false, false, false, false, false, false, false, false, false, false, false, false, false, false, false, false, false, false, false, false, false, false, false, false, false, false, false, false, false, false, false, false, false, false]))
 .skip))
 (.seq (.seq (.reg [⟨(some 27), .op (.mov (.tmp 0)), none⟩,
   ⟨(some 28), .op (.lenv (.tmp 27)), none⟩,
   ⟨(some 29), .op (.bin .gtr (.tmp 28) (.const (.int .i64 140))), none⟩])
 (.cond (.tmp 29) (.seq (.reg [⟨(some 6), .op (.mov (.const (.bool true))), none⟩])
  (.ret [false, false, false, false, false, false, true, false, false, false, false, false, false, false, false, false, false, false, false, false, false, false, false, false, false, false, false, false, false, false, false, false, false, false, false, false, false, false, false, false, false, false, false, false, false, false, false, false, false, false, false, false, false, false, false, false, false, false, false, false, false, false, false, false, false, false, false, false, false, false, false, false, false, false, false, false, false, false, false, false, false, false, false, false, false, false, false, false, false, false, false, false, false, false, false, false, false, false, false, false, false, false, false, false, false, false, false, false, false, false, false, false, false, false, false, false, false, false, false, false, false, false, false, false, false, false, false, false, false, false, false, false, false, false, false, false, false, false, false, false, false, false, false, false, false, false, false, false, false, false]))
 .skip))
 (.seq (.reg [⟨(some 30), .op (.mov (.tmp 0)), none⟩,
   ⟨(some 31), .op (.bld [.nils] [(0, 1, (.tmp 30))]), none⟩,
   ⟨(some 7), .op (.box (.const (.agg [.nils]))), none⟩,
   ⟨none, .op (.st 1 (.tmp 7) (.tmp 31)), none⟩])
 (.seq (.reg [⟨(some 32), .op (.ld (some 1) (.tmp 7)), none⟩,
   ⟨(some 33), .call 15 [(.tmp 32)], none⟩,
   ⟨(some 8), .op (.mov (.tmp 33)), none⟩])
 (.seq (.reg [⟨(some 34), .op (.fad 0 (.tmp 4)), none⟩,
   ⟨(some 35), .op (.ld none (.tmp 34)), none⟩,
   ⟨(some 36), .op (.fad 1 (.tmp 4)), none⟩,
   ⟨(some 37), .op (.ld none (.tmp 36)), none⟩,
   ⟨(some 38), .op (.fad 2 (.tmp 4)), none⟩,
   ⟨(some 39), .op (.ld none (.tmp 38)), none⟩,
   ⟨(some 40), .op (.bld [(.str []), (.str []), (.int .i64 0)] [(0, 1, (.tmp 35)), (1, 1, (.tmp 37)), (2, 1, (.tmp 39))]), none⟩,
   ⟨(some 9), .op (.box (.const (.agg [(.str []), (.str []), (.int .i64 0)]))), none⟩,
   ⟨none, .op (.st 3 (.tmp 9) (.tmp 40)), none⟩])
 (.seq (.reg [⟨(some 42), .op (.ld (some 1) (.tmp 7)), none⟩,
   ⟨(some 43), .op (.ld (some 3) (.tmp 4)), none⟩,
   ⟨(some 44), .call 13 [(.tmp 42), (.tmp 43)], none⟩,
   ⟨(some 41), .op (.mov (.tmp 44)), none⟩,
   ⟨(some 45), .op (.ext (.tmp 41) 0), none⟩,
   ⟨(some 46), .op (.ext (.tmp 41) 1), none⟩,
   ⟨(some 10), .op (.box (.const (.agg [.nils]))), none⟩,
   ⟨none, .op (.st 1 (.tmp 10) (.tmp 45)), none⟩,
   ⟨(some 11), .op (.mov (.tmp 46)), none⟩])
 (.seq (.reg [⟨(some 48), .op (.mov (.tmp 8)), none⟩,
   ⟨(some 49), .op (.ld (some 3) (.tmp 9)), none⟩,
   ⟨(some 50), .call 17 [(.tmp 48), (.tmp 49)], none⟩,
   ⟨(some 47), .op (.mov (.tmp 50)), none⟩,
   ⟨(some 51), .op (.ext (.tmp 47) 0), none⟩,
   ⟨(some 52), .op (.ext (.tmp 47) 1), none⟩,
   ⟨(some 12), .op (.mov (.tmp 51)), none⟩,
   ⟨(some 13), .op (.mov (.tmp 52)), none⟩])
 (.seq (.reg [⟨(some 53), .op (.mov (.tmp 8)), none⟩,
   ⟨(some 54), .call 18 [(.tmp 53)], none⟩,
   ⟨(some 14), .op (.mov (.tmp 54)), none⟩])
 (.seq (.reg [⟨(some 56), .op (.ld (some 1) (.tmp 7)), none⟩,
   ⟨(some 57), .op (.mov (.tmp 2)), none⟩,
   ⟨(some 58), .call 10 [(.tmp 56), (.tmp 57)], none⟩,
   ⟨(some 55), .op (.mov (.tmp 58)), none⟩,
   ⟨(some 59), .op (.ext (.tmp 55) 0), none⟩,
   ⟨(some 60), .op (.ext (.tmp 55) 1), none⟩,
   ⟨(some 15), .op (.box (.const (.agg [(.str []), (.str []), (.int .i64 0)]))), none⟩,
   ⟨none, .op (.st 3 (.tmp 15) (.tmp 59)), none⟩,
   ⟨(some 16), .op (.mov (.tmp 60)), none⟩])
 (.seq (.reg [⟨(some 62), .op (.ld (some 1) (.tmp 7)), none⟩,
   ⟨(some 63), .op (.mov (.tmp 2)), none⟩,
   ⟨(some 64), .call 11 [(.tmp 62), (.tmp 63)], none⟩,
   ⟨(some 61), .op (.mov (.tmp 64)), none⟩,
   ⟨(some 65), .op (.ext (.tmp 61) 0), none⟩,
   ⟨(some 66), .op (.ext (.tmp 61) 1), none⟩,
   ⟨(some 17), .op (.box (.const (.agg [(.str []), (.str []), (.int .i64 0)]))), none⟩,
   ⟨none, .op (.st 3 (.tmp 17) (.tmp 65)), none⟩,
   ⟨(some 18), .op (.mov (.tmp 66)), none⟩])
 (.seq (.reg [⟨(some 68), .op (.ld (some 3) (.tmp 4)), none⟩,
   ⟨(some 69), .call 9 [(.tmp 68)], none⟩,
   ⟨(some 67), .op (.mov (.tmp 69)), none⟩,
   ⟨(some 70), .op (.ext (.tmp 67) 0), none⟩,
   ⟨(some 71), .op (.ext (.tmp 67) 1), none⟩,
   ⟨(some 19), .op (.mov (.tmp 70)), none⟩,
   ⟨(some 20), .op (.mov (.tmp 71)), none⟩])
 (.seq (.reg [⟨(some 73), .op (.ld (some 3) (.tmp 9)), none⟩,
   ⟨(some 74), .call 19 [(.tmp 73)], none⟩,
   ⟨(some 72), .op (.mov (.tmp 74)), none⟩,
   ⟨(some 75), .op (.ext (.tmp 72) 0), none⟩,
   ⟨(some 76), .op (.ext (.tmp 72) 1), none⟩,
   ⟨(some 21), .op (.mov (.tmp 75)), none⟩,
   ⟨(some 22), .op (.mov (.tmp 76)), none⟩])
 (.seq (.reg [⟨(some 77), .op (.mov (.tmp 8)), none⟩,
   ⟨(some 78), .op (.mov (.tmp 2)), none⟩,
   ⟨(some 79), .call 20 [(.tmp 77), (.tmp 78), (.const (.bool false))], none⟩,
   ⟨(some 80), .op (.mov (.tmp 8)), none⟩,
   ⟨(some 81), .op (.mov (.tmp 2)), none⟩,
   ⟨(some 82), .call 20 [(.tmp 80), (.tmp 81), (.const (.bool true))], none⟩,
   ⟨(some 23), .op (.mov (.tmp 79)), none⟩,
   ⟨(some 24), .op (.mov (.tmp 82)), none⟩])
 (.seq (.reg [⟨(some 83), .op (.ld (some 1) (.tmp 7)), none⟩,
   ⟨(some 84), .call 8 [(.tmp 83)], none⟩,
   ⟨(some 85), .op (.mov (.tmp 14)), none⟩,
   ⟨(some 86), .op (.beq false (.tmp 84) (.tmp 85)), none⟩,
   ⟨(some 87), .op (.mov (.tmp 86)), none⟩,
   ⟨(some 88), .op (.mov (.tmp 11)), (some (87, true))⟩,
   ⟨(some 89), .op (.mov (.tmp 13)), (some (87, true))⟩,
   ⟨(some 90), .op (.bin .eql (.tmp 88) (.tmp 89)), (some (87, true))⟩,
   ⟨(some 91), .op (.pick (.tmp 87) (.tmp 90) (.const (.bool false))), none⟩,
   ⟨(some 92), .op (.mov (.tmp 91)), none⟩,
   ⟨(some 93), .op (.ld (some 1) (.tmp 10)), (some (92, true))⟩,
   ⟨(some 94), .call 15 [(.tmp 93)], (some (92, true))⟩,
   ⟨(some 95), .op (.mov (.tmp 12)), (some (92, true))⟩,
   ⟨(some 96), .call 14 [(.tmp 94), (.tmp 95)], (some (92, true))⟩,
   ⟨(some 97), .op (.pick (.tmp 92) (.tmp 96) (.const (.bool false))), none⟩,
   ⟨(some 98), .op (.mov (.tmp 97)), none⟩,
   ⟨(some 99), .op (.mov (.tmp 16)), (some (98, true))⟩,
   ⟨(some 100), .op (.mov (.tmp 14)), (some (98, true))⟩,
   ⟨(some 101), .op (.mov (.tmp 100)), (some (98, true))⟩,
   ⟨(some 102), .op (.mov (.tmp 23)), (some (101, true))⟩,
   ⟨(some 103), .op (.bin .geq (.tmp 102) (.const (.int .i64 0))), (some (101, true))⟩,
   ⟨(some 104), .op (.pick (.tmp 101) (.tmp 103) (.const (.bool false))), (some (98, true))⟩,
   ⟨(some 105), .op (.beq false (.tmp 99) (.tmp 104)), (some (98, true))⟩,
   ⟨(some 106), .op (.pick (.tmp 98) (.tmp 105) (.const (.bool false))), none⟩,
   ⟨(some 107), .op (.mov (.tmp 106)), none⟩,
   ⟨(some 108), .op (.mov (.tmp 16)), (some (107, true))⟩,
   ⟨(some 109), .op (.un .not (.tmp 108)), (some (107, true))⟩,
   ⟨(some 110), .op (.mov (.tmp 109)), (some (107, true))⟩,
   ⟨(some 111), .op (.ld (some 3) (.tmp 15)), (some (110, false))⟩,
   ⟨(some 112), .op (.mov (.tmp 0)), (some (110, false))⟩,
   ⟨(some 113), .op (.mov (.tmp 23)), (some (110, false))⟩,
   ⟨(some 114), .op (.iad 3 (.tmp 112) (.tmp 113)), (some (110, false))⟩,
   ⟨(some 115), .op (.ld (some 3) (.tmp 114)), (some (110, false))⟩,
   ⟨(some 116), .op (.ceq [2, 2, 1] false (.tmp 111) (.tmp 115)), (some (110, false))⟩,
   ⟨(some 117), .op (.pick (.tmp 110) (.const (.bool true)) (.tmp 116)), (some (107, true))⟩,
   ⟨(some 118), .op (.pick (.tmp 107) (.tmp 117) (.const (.bool false))), none⟩,
   ⟨(some 119), .op (.mov (.tmp 118)), none⟩,
   ⟨(some 120), .op (.mov (.tmp 18)), (some (119, true))⟩,
   ⟨(some 121), .op (.mov (.tmp 14)), (some (119, true))⟩,
   ⟨(some 122), .op (.mov (.tmp 121)), (some (119, true))⟩,
   ⟨(some 123), .op (.mov (.tmp 24)), (some (122, true))⟩,
   ⟨(some 124), .op (.bin .geq (.tmp 123) (.const (.int .i64 0))), (some (122, true))⟩,
   ⟨(some 125), .op (.pick (.tmp 122) (.tmp 124) (.const (.bool false))), (some (119, true))⟩,
   ⟨(some 126), .op (.beq false (.tmp 120) (.tmp 125)), (some (119, true))⟩,
   ⟨(some 127), .op (.pick (.tmp 119) (.tmp 126) (.const (.bool false))), none⟩,
   ⟨(some 128), .op (.mov (.tmp 127)), none⟩,
   ⟨(some 129), .op (.mov (.tmp 18)), (some (128, true))⟩,
   ⟨(some 130), .op (.un .not (.tmp 129)), (some (128, true))⟩,
   ⟨(some 131), .op (.mov (.tmp 130)), (some (128, true))⟩,
   ⟨(some 132), .op (.ld (some 3) (.tmp 17)), (some (131, false))⟩,
   ⟨(some 133), .op (.mov (.tmp 0)), (some (131, false))⟩,
   ⟨(some 134), .op (.mov (.tmp 24)), (some (131, false))⟩,
   ⟨(some 135), .op (.iad 3 (.tmp 133) (.tmp 134)), (some (131, false))⟩,
   ⟨(some 136), .op (.ld (some 3) (.tmp 135)), (some (131, false))⟩,
   ⟨(some 137), .op (.ceq [2, 2, 1] false (.tmp 132) (.tmp 136)), (some (131, false))⟩,
   ⟨(some 138), .op (.pick (.tmp 131) (.const (.bool true)) (.tmp 137)), (some (128, true))⟩,
   ⟨(some 139), .op (.pick (.tmp 128) (.tmp 138) (.const (.bool false))), none⟩,
   ⟨(some 140), .op (.mov (.tmp 139)), none⟩,
   ⟨(some 141), .op (.mov (.tmp 19)), (some (140, true))⟩,
   ⟨(some 142), .op (.mov (.tmp 21)), (some (140, true))⟩,
   ⟨(some 143), .op (.bin .eql (.tmp 141) (.tmp 142)), (some (140, true))⟩,
   ⟨(some 144), .op (.pick (.tmp 140) (.tmp 143) (.const (.bool false))), none⟩,
   ⟨(some 145), .op (.mov (.tmp 144)), none⟩,
   ⟨(some 146), .op (.mov (.tmp 20)), (some (145, true))⟩,
   ⟨(some 147), .op (.mov (.tmp 22)), (some (145, true))⟩,
   ⟨(some 148), .op (.bin .eql (.tmp 146) (.tmp 147)), (some (145, true))⟩,
   ⟨(some 149), .op (.pick (.tmp 145) (.tmp 148) (.const (.bool false))), none⟩,
   ⟨(some 6), .op (.mov (.tmp 149)), none⟩])
 (.ret [false, false, false, false, false, false, true, false, false, false, false, false, false, false, false, false, false, false, false, false, false, false, false, false, false, false, false, false, false, false, false, false, false, false, false, false, false, false, false, false, false, false, false, false, false, false, false, false, false, false, false, false, false, false, false, false, false, false, false, false, false, false, false, false, false, false, false, false, false, false, false, false, false, false, false, false, false, false, false, false, false, false, false, false, false, false, false, false, false, false, false, false, false, false, false, false, false, false, false, false, false, false, false, false, false, false, false, false, false, false, false, false, false, false, false, false, false, false, false, false, false, false, false, false, false, false, false, false, false, false, false, false, false, false, false, false, false, false, false, false, false, false, false, false, false, false, false, false, false, false]))))))))))))))))⟩
theorem ok5 : FnOK Try.prog 5 c5 := ⟨Try.f5, _, Try.func5, by kernel_rfl, rfl, by kernel_rfl, by kernel_rfl, by kernel_rfl⟩

/-- sizar/sizarlaw5.OpAdds. -/
def c6 : AFun := ⟨137, [.tmp 6], false, (.seq (.reg [⟨(some 4), .op (.box (.tmp 1)), none⟩,
   ⟨(some 6), .op (.mov (.const (.bool false))), none⟩])
 (.seq (.seq (.reg [⟨(some 23), .call 7 [], none⟩,
   ⟨(some 24), .op (.un .not (.tmp 23)), none⟩])
 (.cond (.tmp 24) (.seq (.reg [⟨(some 6), .op (.mov (.const (.bool false))), none⟩])
  (.ret [false, false, false, false, false, false, true, false, false, false, false, false, false, false, false, false, false, false, false, false, false, false, false, false, false, false, false, false, false, false, false, false, false, false, false, false, false, false, false, false, false, false, false, false, false, false, false, false, false, false, false, false, false, false, false, false, false, false, false, false, false, false, false, false, false, false, false, false, false, false, false, false, false, false, false, false, false, false, false, false, false, false, false, false, false, false, false, false, false, false, false, false, false, false, false, false, false, false, false, false, false, false, false, false, false, false, false, false, false, false, false, false, false, false, false, false, false, false, false, false, false, false, false, false, false, false, false, false, false, false, false, false, false, false, false, false, false]))
 .skip))
 (.seq (.reg [⟨(some 25), .op (.mov (.tmp 0)), none⟩,
   ⟨(some 26), .op (.bld [.nils] [(0, 1, (.tmp 25))]), none⟩,
   ⟨(some 7), .op (.box (.const (.agg [.nils]))), none⟩,
   ⟨none, .op (.st 1 (.tmp 7) (.tmp 26)), none⟩])
 (.seq (.seq (.reg [⟨(some 27), .op (.mov (.tmp 0)), none⟩,
   ⟨(some 28), .op (.lenv (.tmp 27)), none⟩,
   ⟨(some 29), .op (.bin .gtr (.tmp 28) (.const (.int .i64 120))), none⟩,
   ⟨(some 30), .op (.mov (.tmp 29)), none⟩,
   ⟨(some 31), .op (.ld (some 1) (.tmp 7)), (some (30, false))⟩,
   ⟨(some 32), .call 8 [(.tmp 31)], (some (30, false))⟩,
   ⟨(some 33), .op (.un .not (.tmp 32)), (some (30, false))⟩,
   ⟨(some 34), .op (.pick (.tmp 30) (.const (.bool true)) (.tmp 33)), none⟩])
 (.cond (.tmp 34) (.seq (.reg [⟨(some 6), .op (.mov (.const (.bool true))), none⟩])
  (.ret [false, false, false, false, false, false, true, false, false, false, false, false, false, false, false, false, false, false, false, false, false, false, false, false, false, false, false, false, false, false, false, false, false, false, false, false, false, false, false, false, false, false, false, false, false, false, false, false, false, false, false, false, false, false, false, false, false, false, false, false, false, false, false, false, false, false, false, false, false, false, false, false, false, false, false, false, false, false, false, false, false, false, false, false, false, false, false, false, false, false, false, false, false, false, false, false, false, false, false, false, false, false, false, false, false, false, false, false, false, false, false, false, false, false, false, false, false, false, false, false, false, false, false, false, false, false, false, false, false, false, false, false, false, false, false, false, false]))
 .skip))
 (.seq (.reg [⟨(some 36), .op (.ld (some 1) (.tmp 7)), none⟩,
   ⟨(some 37), .op (.ld (some 3) (.tmp 4)), none⟩,
   ⟨(some 38), .call 13 [(.tmp 36), (.tmp 37)], none⟩,
   ⟨(some 35), .op (.mov (.tmp 38)), none⟩,
   ⟨(some 39), .op (.ext (.tmp 35) 0), none⟩,
   ⟨(some 40), .op (.ext (.tmp 35) 1), none⟩,
   ⟨(some 8), .op (.box (.const (.agg [.nils]))), none⟩,
   ⟨none, .op (.st 1 (.tmp 8) (.tmp 39)), none⟩,
   ⟨(some 9), .op (.mov (.tmp 40)), none⟩])
 (.seq (.seq (.reg [⟨(some 41), .op (.mov (.tmp 9)), none⟩,
   ⟨(some 42), .op (.bin .neq (.tmp 41) (.const (.int .i64 0))), none⟩])
 (.cond (.tmp 42) (.seq (.reg [⟨(some 6), .op (.mov (.const (.bool true))), none⟩])
  (.ret [false, false, false, false, false, false, true, false, false, false, false, false, false, false, false, false, false, false, false, false, false, false, false, false, false, false, false, false, false, false, false, false, false, false, false, false, false, false, false, false, false, false, false, false, false, false, false, false, false, false, false, false, false, false, false, false, false, false, false, false, false, false, false, false, false, false, false, false, false, false, false, false, false, false, false, false, false, false, false, false, false, false, false, false, false, false, false, false, false, false, false, false, false, false, false, false, false, false, false, false, false, false, false, false, false, false, false, false, false, false, false, false, false, false, false, false, false, false, false, false, false, false, false, false, false, false, false, false, false, false, false, false, false, false, false, false, false]))
 .skip))
 (.seq (.reg [⟨(some 43), .op (.fad 1 (.tmp 4)), none⟩,
   ⟨(some 44), .op (.ld none (.tmp 43)), none⟩,
   ⟨(some 45), .op (.bin .eql (.tmp 44) (.const (.str [120, 102, 120]))), none⟩,
   ⟨(some 46), .op (.mov (.tmp 45)), none⟩,
   ⟨(some 47), .op (.fad 1 (.tmp 4)), (some (46, false))⟩,
   ⟨(some 48), .op (.ld none (.tmp 47)), (some (46, false))⟩,
   ⟨(some 49), .op (.bin .eql (.tmp 48) (.const (.str [120, 102, 121]))), (some (46, false))⟩,
   ⟨(some 50), .op (.pick (.tmp 46) (.const (.bool true)) (.tmp 49)), none⟩,
   ⟨(some 51), .op (.mov (.tmp 50)), none⟩,
   ⟨(some 52), .op (.fad 1 (.tmp 4)), (some (51, false))⟩,
   ⟨(some 53), .op (.ld none (.tmp 52)), (some (51, false))⟩,
   ⟨(some 54), .op (.bin .eql (.tmp 53) (.const (.str [121, 102, 120]))), (some (51, false))⟩,
   ⟨(some 55), .op (.pick (.tmp 51) (.const (.bool true)) (.tmp 54)), none⟩,
   ⟨(some 10), .op (.mov (.tmp 55)), none⟩])
 (.seq (.reg [⟨(some 57), .op (.ld (some 1) (.tmp 8)), none⟩,
   ⟨(some 58), .op (.fad 0 (.tmp 4)), none⟩,
   ⟨(some 59), .op (.ld none (.tmp 58)), none⟩,
   ⟨(some 60), .call 10 [(.tmp 57), (.tmp 59)], none⟩,
   ⟨(some 56), .op (.mov (.tmp 60)), none⟩,
   ⟨(some 61), .op (.ext (.tmp 56) 0), none⟩,
   ⟨(some 62), .op (.ext (.tmp 56) 1), none⟩,
   ⟨(some 11), .op (.box (.const (.agg [(.str []), (.str []), (.int .i64 0)]))), none⟩,
   ⟨none, .op (.st 3 (.tmp 11) (.tmp 61)), none⟩,
   ⟨(some 12), .op (.mov (.tmp 62)), none⟩])
 (.seq (.reg [⟨(some 64), .op (.ld (some 1) (.tmp 8)), none⟩,
   ⟨(some 65), .op (.fad 0 (.tmp 4)), none⟩,
   ⟨(some 66), .op (.ld none (.tmp 65)), none⟩,
   ⟨(some 67), .call 11 [(.tmp 64), (.tmp 66)], none⟩,
   ⟨(some 63), .op (.mov (.tmp 67)), none⟩,
   ⟨(some 68), .op (.ext (.tmp 63) 0), none⟩,
   ⟨(some 69), .op (.ext (.tmp 63) 1), none⟩,
   ⟨(some 13), .op (.box (.const (.agg [(.str []), (.str []), (.int .i64 0)]))), none⟩,
   ⟨none, .op (.st 3 (.tmp 13) (.tmp 68)), none⟩,
   ⟨(some 14), .op (.mov (.tmp 69)), none⟩])
 (.seq (.seq (.reg [⟨(some 70), .op (.mov (.tmp 10)), none⟩])
 (.cond (.tmp 70) (.reg [⟨(some 71), .op (.ld (some 3) (.tmp 13)), none⟩,
    ⟨(some 72), .op (.mov (.tmp 14)), none⟩,
    ⟨none, .op (.st 3 (.tmp 11) (.tmp 71)), none⟩,
    ⟨(some 12), .op (.mov (.tmp 72)), none⟩])
 .skip))
 (.seq (.seq (.reg [⟨(some 73), .op (.mov (.tmp 12)), none⟩,
   ⟨(some 74), .op (.fad 2 (.tmp 4)), none⟩,
   ⟨(some 75), .op (.ld none (.tmp 74)), none⟩,
   ⟨(some 76), .op (.bin .gtr (.tmp 75) (.const (.int .i64 0))), none⟩,
   ⟨(some 77), .op (.beq true (.tmp 73) (.tmp 76)), none⟩,
   ⟨(some 78), .op (.mov (.tmp 77)), none⟩,
   ⟨(some 79), .op (.mov (.tmp 12)), (some (78, false))⟩,
   ⟨(some 80), .op (.mov (.tmp 79)), (some (78, false))⟩,
   ⟨(some 81), .op (.ld (some 3) (.tmp 11)), (some (80, true))⟩,
   ⟨(some 82), .op (.ld (some 3) (.tmp 4)), (some (80, true))⟩,
   ⟨(some 83), .op (.ceq [2, 2, 1] true (.tmp 81) (.tmp 82)), (some (80, true))⟩,
   ⟨(some 84), .op (.pick (.tmp 80) (.tmp 83) (.const (.bool false))), (some (78, false))⟩,
   ⟨(some 85), .op (.pick (.tmp 78) (.const (.bool true)) (.tmp 84)), none⟩,
   ⟨(some 86), .op (.mov (.tmp 85)), none⟩,
   ⟨(some 87), .op (.ld (some 1) (.tmp 8)), (some (86, false))⟩,
   ⟨(some 88), .call 8 [(.tmp 87)], (some (86, false))⟩,
   ⟨(some 89), .op (.un .not (.tmp 88)), (some (86, false))⟩,
   ⟨(some 90), .op (.pick (.tmp 86) (.const (.bool true)) (.tmp 89)), none⟩])
 (.cond (.tmp 90) (.seq (.reg [⟨(some 6), .op (.mov (.const (.bool false))), none⟩])
  (.ret [false, false, false, false, false, false, true, false, false, false, false, false, false, false, false, false, false, false, false, false, false, false, false, false, false, false, false, false, false, false, false, false, false, false, false, false, false, false, false, false, false, false, false, false, false, false, false, false, false, false, false, false, false, false, false, false, false, false, false, false, false, false, false, false, false, false, false, false, false, false, false, false, false, false, false, false, false, false, false, false, false, false, false, false, false, false, false, false, false, false, false, false, false, false, false, false, false, false, false, false, false, false, false, false, false, false, false, false, false, false, false, false, false, false, false, false, false, false, false, false, false, false, false, false, false, false, false, false, false, false, false, false, false, false, false, false, false]))
 .skip))
 (.seq (.seq (.reg [⟨(some 91), .op (.mov (.tmp 2)), none⟩,
   ⟨(some 92), .op (.fad 0 (.tmp 4)), none⟩,
   ⟨(some 93), .op (.ld none (.tmp 92)), none⟩,
   ⟨(some 94), .op (.bin .neq (.tmp 91) (.tmp 93)), none⟩])
 (.cond (.tmp 94) (.seq (.reg [⟨(some 96), .op (.ld (some 1) (.tmp 7)), none⟩,
    ⟨(some 97), .op (.mov (.tmp 2)), none⟩,
    ⟨(some 98), .call 10 [(.tmp 96), (.tmp 97)], none⟩,
    ⟨(some 95), .op (.mov (.tmp 98)), none⟩,
    ⟨(some 99), .op (.ext (.tmp 95) 0), none⟩,
    ⟨(some 100), .op (.ext (.tmp 95) 1), none⟩,
    ⟨(some 15), .op (.box (.const (.agg [(.str []), (.str []), (.int .i64 0)]))), none⟩,
    ⟨none, .op (.st 3 (.tmp 15) (.tmp 99)), none⟩,
    ⟨(some 16), .op (.mov (.tmp 100)), none⟩])
  (.seq (.reg [⟨(some 102), .op (.ld (some 1) (.tmp 8)), none⟩,
    ⟨(some 103), .op (.mov (.tmp 2)), none⟩,
    ⟨(some 104), .call 10 [(.tmp 102), (.tmp 103)], none⟩,
    ⟨(some 101), .op (.mov (.tmp 104)), none⟩,
    ⟨(some 105), .op (.ext (.tmp 101) 0), none⟩,
    ⟨(some 106), .op (.ext (.tmp 101) 1), none⟩,
    ⟨(some 17), .op (.box (.const (.agg [(.str []), (.str []), (.int .i64 0)]))), none⟩,
    ⟨none, .op (.st 3 (.tmp 17) (.tmp 105)), none⟩,
    ⟨(some 18), .op (.mov (.tmp 106)), none⟩])
  (.seq (.reg [⟨(some 108), .op (.ld (some 1) (.tmp 7)), none⟩,
    ⟨(some 109), .op (.mov (.tmp 2)), none⟩,
    ⟨(some 110), .call 11 [(.tmp 108), (.tmp 109)], none⟩,
    ⟨(some 107), .op (.mov (.tmp 110)), none⟩,
    ⟨(some 111), .op (.ext (.tmp 107) 0), none⟩,
    ⟨(some 112), .op (.ext (.tmp 107) 1), none⟩,
    ⟨(some 19), .op (.box (.const (.agg [(.str []), (.str []), (.int .i64 0)]))), none⟩,
    ⟨none, .op (.st 3 (.tmp 19) (.tmp 111)), none⟩,
    ⟨(some 20), .op (.mov (.tmp 112)), none⟩])
  (.seq (.reg [⟨(some 114), .op (.ld (some 1) (.tmp 8)), none⟩,
    ⟨(some 115), .op (.mov (.tmp 2)), none⟩,
    ⟨(some 116), .call 11 [(.tmp 114), (.tmp 115)], none⟩,
    ⟨(some 113), .op (.mov (.tmp 116)), none⟩,
    ⟨(some 117), .op (.ext (.tmp 113) 0), none⟩,
    ⟨(some 118), .op (.ext (.tmp 113) 1), none⟩,
    ⟨(some 21), .op (.box (.const (.agg [(.str []), (.str []), (.int .i64 0)]))), none⟩,
    ⟨none, .op (.st 3 (.tmp 21) (.tmp 117)), none⟩,
    ⟨(some 22), .op (.mov (.tmp 118)), none⟩])
  (.seq (.reg [⟨(some 119), .op (.mov (.tmp 16)), none⟩,
    ⟨(some 120), .op (.mov (.tmp 18)), none⟩,
    ⟨(some 121), .op (.beq false (.tmp 119) (.tmp 120)), none⟩,
    ⟨(some 122), .op (.mov (.tmp 121)), none⟩,
    ⟨(some 123), .op (.ld (some 3) (.tmp 15)), (some (122, true))⟩,
    ⟨(some 124), .op (.ld (some 3) (.tmp 17)), (some (122, true))⟩,
    ⟨(some 125), .op (.ceq [2, 2, 1] false (.tmp 123) (.tmp 124)), (some (122, true))⟩,
    ⟨(some 126), .op (.pick (.tmp 122) (.tmp 125) (.const (.bool false))), none⟩,
    ⟨(some 127), .op (.mov (.tmp 126)), none⟩,
    ⟨(some 128), .op (.mov (.tmp 20)), (some (127, true))⟩,
    ⟨(some 129), .op (.mov (.tmp 22)), (some (127, true))⟩,
    ⟨(some 130), .op (.beq false (.tmp 128) (.tmp 129)), (some (127, true))⟩,
    ⟨(some 131), .op (.pick (.tmp 127) (.tmp 130) (.const (.bool false))), none⟩,
    ⟨(some 132), .op (.mov (.tmp 131)), none⟩,
    ⟨(some 133), .op (.ld (some 3) (.tmp 19)), (some (132, true))⟩,
    ⟨(some 134), .op (.ld (some 3) (.tmp 21)), (some (132, true))⟩,
    ⟨(some 135), .op (.ceq [2, 2, 1] false (.tmp 133) (.tmp 134)), (some (132, true))⟩,
    ⟨(some 136), .op (.pick (.tmp 132) (.tmp 135) (.const (.bool false))), none⟩,
    ⟨(some 6), .op (.mov (.tmp 136)), none⟩])
  (.ret [false, false, false, false, false, false, true, false, false, false, false, false, false, false, false, false, false, false, false, false, false, false, false, false, false, false, false, false, false, false, false, false, false, false, false, false, false, false, false, false, false, false, false, false, false, false, false, false, false, false, false, false, false, false, false, false, false, false, false, false, false, false, false, false, false, false, false, false, false, false, false, false, false, false, false, false, false, false, false, false, false, false, false, false, false, false, false, false, false, false, false, false, false, false, false, false, false, false, false, false, false, false, false, false, false, false, false, false, false, false, false, false, false, false, false, false, false, false, false, false, false, false, false, false, false, false, false, false, false, false, false, false, false, false, false, false, false]))))))
 .skip))
 (.seq (.reg [⟨(some 6), .op (.mov (.const (.bool true))), none⟩])
 (.ret [false, false, false, false, false, false, true, false, false, false, false, false, false, false, false, false, false, false, false, false, false, false, false, false, false, false, false, false, false, false, false, false, false, false, false, false, false, false, false, false, false, false, false, false, false, false, false, false, false, false, false, false, false, false, false, false, false, false, false, false, false, false, false, false, false, false, false, false, false, false, false, false, false, false, false, false, false, false, false, false, false, false, false, false, false, false, false, false, false, false, false, false, false, false, false, false, false, false, false, false, false, false, false, false, false, false, false, false, false, false, false, false, false, false, false, false, false, false, false, false, false, false, false, false, false, false, false, false, false, false, false, false, false, false, false, false, false]))))))))))))))⟩
theorem ok6 : FnOK Try.prog 6 c6 := ⟨Try.f6, _, Try.func6, by kernel_rfl, rfl, by kernel_rfl, by kernel_rfl, by kernel_rfl⟩

/-- sizar/sizarlaw5.awake. -/
def c7 : AFun := ⟨33, [.tmp 0], false, (.seq (.reg [⟨(some 0), .op (.mov (.const (.bool false))), none⟩])
 (.seq (.reg [⟨(some 6), .call 12 [], none⟩,
   ⟨(some 7), .call 11 [(.tmp 6), (.const (.str [43]))], none⟩,
   ⟨(some 5), .op (.mov (.tmp 7)), none⟩,
   ⟨(some 8), .op (.ext (.tmp 5) 0), none⟩,
   ⟨(some 9), .op (.ext (.tmp 5) 1), none⟩,
   ⟨(some 1), .op (.box (.const (.agg [(.str []), (.str []), (.int .i64 0)]))), none⟩,
   ⟨none, .op (.st 3 (.tmp 1) (.tmp 8)), none⟩,
   ⟨(some 2), .op (.mov (.tmp 9)), none⟩])
 (.seq (.reg [⟨(some 11), .op (.ld (some 3) (.tmp 1)), none⟩,
   ⟨(some 12), .call 9 [(.tmp 11)], none⟩,
   ⟨(some 10), .op (.mov (.tmp 12)), none⟩,
   ⟨(some 13), .op (.ext (.tmp 10) 0), none⟩,
   ⟨(some 14), .op (.ext (.tmp 10) 1), none⟩,
   ⟨(some 3), .op (.mov (.tmp 13)), none⟩,
   ⟨(some 4), .op (.mov (.tmp 14)), none⟩])
 (.seq (.reg [⟨(some 15), .op (.mov (.tmp 2)), none⟩,
   ⟨(some 16), .op (.mov (.tmp 15)), none⟩,
   ⟨(some 17), .op (.ld (some 3) (.tmp 1)), (some (16, true))⟩,
   ⟨(some 18), .op (.bld [(.str []), (.str []), (.int .i64 0)] [(0, 1, (.const (.str [43]))), (1, 1, (.const (.str [121, 102, 120]))), (2, 1, (.const (.int .i64 500)))]), (some (16, true))⟩,
   ⟨(some 19), .op (.ceq [2, 2, 1] false (.tmp 17) (.tmp 18)), (some (16, true))⟩,
   ⟨(some 20), .op (.pick (.tmp 16) (.tmp 19) (.const (.bool false))), none⟩,
   ⟨(some 21), .op (.mov (.tmp 20)), none⟩,
   ⟨(some 22), .op (.mov (.tmp 3)), (some (21, true))⟩,
   ⟨(some 23), .op (.bin .eql (.tmp 22) (.const (.int .i64 500))), (some (21, true))⟩,
   ⟨(some 24), .op (.pick (.tmp 21) (.tmp 23) (.const (.bool false))), none⟩,
   ⟨(some 25), .op (.mov (.tmp 24)), none⟩,
   ⟨(some 26), .op (.mov (.tmp 4)), (some (25, true))⟩,
   ⟨(some 27), .op (.bin .eql (.tmp 26) (.const (.int .i64 499))), (some (25, true))⟩,
   ⟨(some 28), .op (.pick (.tmp 25) (.tmp 27) (.const (.bool false))), none⟩,
   ⟨(some 29), .op (.mov (.tmp 28)), none⟩,
   ⟨(some 30), .call 12 [], (some (29, true))⟩,
   ⟨(some 31), .call 8 [(.tmp 30)], (some (29, true))⟩,
   ⟨(some 32), .op (.pick (.tmp 29) (.tmp 31) (.const (.bool false))), none⟩,
   ⟨(some 0), .op (.mov (.tmp 32)), none⟩])
 (.ret [true, false, false, false, false, false, false, false, false, false, false, false, false, false, false, false, false, false, false, false, false, false, false, false, false, false, false, false, false, false, false, false, false])))))⟩
theorem ok7 : FnOK Try.prog 7 c7 := ⟨Try.f7, _, Try.func7, by kernel_rfl, rfl, by kernel_rfl, by kernel_rfl, by kernel_rfl⟩

/-- sizar/op.Good. -/
def c8_m0 : List Bool := [false, true, false, false, false, false, false, false, false, false, false, true, true, true, false, false, false, false, false, false, false, false, false, false, false, false, false, false, false, false, false]
abbrev c8_f0 (v1 v11 v12 v13 : AV) : List AV := [.undef, v1, .undef, .undef, .undef, .undef, .undef, .undef, .undef, .undef, .undef, v11, v12, v13, .undef, .undef, .undef, .undef, .undef, .undef, .undef, .undef, .undef, .undef, .undef, .undef, .undef, .undef, .undef, .undef, .undef]
def c8_b0 : ACode := (.seq (.reg [⟨(some 14), .op (.bin .lss (.tmp 13) (.tmp 12)), none⟩])
 (.seq (.cond (.tmp 14) .skip
 (.exit 0 [false, false, false, false, false, false, false, false, false, false, false, false, false, false, false, false, false, false, false, false, false, false, false, false, false, false, false, false, false, false, false]))
 (.seq (.block 1 (.seq (.reg [⟨(some 15), .op (.mov (.tmp 13)), none⟩,
    ⟨(some 16), .op (.iad 3 (.tmp 11) (.tmp 13)), none⟩,
    ⟨(some 17), .op (.ld (some 3) (.tmp 16)), none⟩,
    ⟨(some 4), .op (.box (.const (.agg [(.str []), (.str []), (.int .i64 0)]))), none⟩,
    ⟨(some 3), .op (.mov (.tmp 15)), none⟩,
    ⟨none, .op (.st 3 (.tmp 4) (.tmp 17)), none⟩])
  (.seq (.reg [⟨(some 18), .op (.mkf 21 [(.tmp 4)]), none⟩,
    ⟨(some 5), .op (.mov (.tmp 18)), none⟩])
  (.seq (.reg [⟨(some 19), .op (.ld (some 3) (.tmp 4)), none⟩,
    ⟨(some 20), .call 23 [(.tmp 19)], none⟩,
    ⟨(some 21), .op (.un .not (.tmp 20)), none⟩,
    ⟨(some 22), .op (.mov (.tmp 21)), none⟩,
    ⟨(some 23), .op (.fad 0 (.tmp 1)), (some (22, false))⟩,
    ⟨(some 24), .op (.ld none (.tmp 23)), (some (22, false))⟩,
    ⟨(some 25), .op (.mov (.tmp 3)), (some (22, false))⟩,
    ⟨(some 26), .op (.slv 3 (.tmp 24) none (some (.tmp 25)) none), (some (22, false))⟩,
    ⟨(some 27), .op (.mov (.tmp 5)), (some (22, false))⟩,
    ⟨(some 28), .call 24 [(.tmp 26), (.tmp 27)], (some (22, false))⟩,
    ⟨(some 29), .op (.pick (.tmp 22) (.const (.bool true)) (.tmp 28)), none⟩])
  (.cond (.tmp 29) (.seq (.reg [⟨(some 2), .op (.mov (.const (.bool false))), none⟩])
   (.ret [false, false, true, false, false, false, false, false, false, false, false, false, false, false, false, false, false, false, false, false, false, false, false, false, false, false, false, false, false, false, false]))
  .skip)))))
 (.reg [⟨(some 30), .op (.bin .add (.tmp 13) (.const (.int .i64 1))), none⟩,
   ⟨(some 13), .op (.mov (.tmp 30)), none⟩]))))
def c8 : AFun := ⟨31, [.tmp 2], false, (.seq (.reg [⟨(some 1), .op (.box (.tmp 0)), none⟩,
   ⟨(some 2), .op (.mov (.const (.bool false))), none⟩])
 (.seq (.seq (.reg [⟨(some 6), .op (.fad 0 (.tmp 1)), none⟩,
   ⟨(some 7), .op (.ld none (.tmp 6)), none⟩,
   ⟨(some 8), .op (.lenv (.tmp 7)), none⟩,
   ⟨(some 9), .op (.bin .gtr (.tmp 8) (.const (.int .i64 128))), none⟩])
 (.cond (.tmp 9) (.seq (.reg [⟨(some 2), .op (.mov (.const (.bool false))), none⟩])
  (.ret [false, false, true, false, false, false, false, false, false, false, false, false, false, false, false, false, false, false, false, false, false, false, false, false, false, false, false, false, false, false, false]))
 .skip))
 (.seq (.seq (.reg [⟨(some 10), .op (.fad 0 (.tmp 1)), none⟩,
   ⟨(some 11), .op (.ld none (.tmp 10)), none⟩,
   ⟨(some 12), .op (.lenv (.tmp 11)), none⟩,
   ⟨(some 13), .op (.mov (.const (.int .i64 0))), none⟩])
 (.block 0 (.loop c8_m0 c8_b0)))
 (.seq (.reg [⟨(some 2), .op (.mov (.const (.bool true))), none⟩])
 (.ret [false, false, true, false, false, false, false, false, false, false, false, false, false, false, false, false, false, false, false, false, false, false, false, false, false, false, false, false, false, false, false])))))⟩
theorem ok8 : FnOK Try.prog 8 c8 := ⟨Try.f8, _, Try.func8, by kernel_rfl, rfl, by kernel_rfl, by kernel_rfl, by kernel_rfl⟩

/-- sizar/op.Sides. -/
def c9 : AFun := ⟨37, [.tmp 2, .tmp 3], false, (.seq (.reg [⟨(some 1), .op (.box (.tmp 0)), none⟩,
   ⟨(some 2), .op (.mov (.const (.int .i64 0))), none⟩,
   ⟨(some 3), .op (.mov (.const (.int .i64 0))), none⟩])
 (.seq (.seq (.reg [⟨(some 4), .op (.fad 1 (.tmp 1)), none⟩,
   ⟨(some 5), .op (.ld none (.tmp 4)), none⟩])
 (.block 0 (.seq (.reg [⟨(some 7), .op (.bin .eql (.tmp 5) (.const (.str [120, 102, 120]))), none⟩,
    ⟨(some 6), .op (.mov (.tmp 7)), none⟩])
  (.cond (.tmp 6) (.seq (.reg [⟨(some 8), .op (.fad 2 (.tmp 1)), none⟩,
     ⟨(some 9), .op (.ld none (.tmp 8)), none⟩,
     ⟨(some 10), .op (.bin .sub (.tmp 9) (.const (.int .i64 1))), none⟩,
     ⟨(some 11), .op (.fad 2 (.tmp 1)), none⟩,
     ⟨(some 12), .op (.ld none (.tmp 11)), none⟩,
     ⟨(some 13), .op (.bin .sub (.tmp 12) (.const (.int .i64 1))), none⟩,
     ⟨(some 2), .op (.mov (.tmp 10)), none⟩,
     ⟨(some 3), .op (.mov (.tmp 13)), none⟩])
   (.ret [false, false, true, true, false, false, false, false, false, false, false, false, false, false, false, false, false, false, false, false, false, false, false, false, false, false, false, false, false, false, false, false, false, false, false, false, false]))
  (.seq (.reg [⟨(some 15), .op (.bin .eql (.tmp 5) (.const (.str [120, 102, 121]))), none⟩,
     ⟨(some 14), .op (.mov (.tmp 15)), none⟩])
   (.cond (.tmp 14) (.seq (.reg [⟨(some 16), .op (.fad 2 (.tmp 1)), none⟩,
      ⟨(some 17), .op (.ld none (.tmp 16)), none⟩,
      ⟨(some 18), .op (.bin .sub (.tmp 17) (.const (.int .i64 1))), none⟩,
      ⟨(some 19), .op (.fad 2 (.tmp 1)), none⟩,
      ⟨(some 20), .op (.ld none (.tmp 19)), none⟩,
      ⟨(some 2), .op (.mov (.tmp 18)), none⟩,
      ⟨(some 3), .op (.mov (.tmp 20)), none⟩])
    (.ret [false, false, true, true, false, false, false, false, false, false, false, false, false, false, false, false, false, false, false, false, false, false, false, false, false, false, false, false, false, false, false, false, false, false, false, false, false]))
   (.seq (.reg [⟨(some 22), .op (.bin .eql (.tmp 5) (.const (.str [121, 102, 120]))), none⟩,
      ⟨(some 21), .op (.mov (.tmp 22)), none⟩])
    (.cond (.tmp 21) (.seq (.reg [⟨(some 23), .op (.fad 2 (.tmp 1)), none⟩,
       ⟨(some 24), .op (.ld none (.tmp 23)), none⟩,
       ⟨(some 25), .op (.fad 2 (.tmp 1)), none⟩,
       ⟨(some 26), .op (.ld none (.tmp 25)), none⟩,
       ⟨(some 27), .op (.bin .sub (.tmp 26) (.const (.int .i64 1))), none⟩,
       ⟨(some 2), .op (.mov (.tmp 24)), none⟩,
       ⟨(some 3), .op (.mov (.tmp 27)), none⟩])
     (.ret [false, false, true, true, false, false, false, false, false, false, false, false, false, false, false, false, false, false, false, false, false, false, false, false, false, false, false, false, false, false, false, false, false, false, false, false, false]))
    (.seq (.reg [⟨(some 29), .op (.bin .eql (.tmp 5) (.const (.str [102, 121]))), none⟩,
       ⟨(some 28), .op (.mov (.tmp 29)), none⟩])
     (.cond (.tmp 28) (.seq (.reg [⟨(some 30), .op (.fad 2 (.tmp 1)), none⟩,
        ⟨(some 31), .op (.ld none (.tmp 30)), none⟩,
        ⟨(some 2), .op (.mov (.const (.int .i64 0))), none⟩,
        ⟨(some 3), .op (.mov (.tmp 31)), none⟩])
      (.ret [false, false, true, true, false, false, false, false, false, false, false, false, false, false, false, false, false, false, false, false, false, false, false, false, false, false, false, false, false, false, false, false, false, false, false, false, false]))
     (.seq (.reg [⟨(some 33), .op (.bin .eql (.tmp 5) (.const (.str [102, 120]))), none⟩,
        ⟨(some 32), .op (.mov (.tmp 33)), none⟩])
      (.cond (.tmp 32) (.seq (.reg [⟨(some 34), .op (.fad 2 (.tmp 1)), none⟩,
         ⟨(some 35), .op (.ld none (.tmp 34)), none⟩,
         ⟨(some 36), .op (.bin .sub (.tmp 35) (.const (.int .i64 1))), none⟩,
         ⟨(some 2), .op (.mov (.const (.int .i64 0))), none⟩,
         ⟨(some 3), .op (.mov (.tmp 36)), none⟩])
       (.ret [false, false, true, true, false, false, false, false, false, false, false, false, false, false, false, false, false, false, false, false, false, false, false, false, false, false, false, false, false, false, false, false, false, false, false, false, false]))
      .skip))))))))))))
 (.seq (.reg [⟨(some 2), .op (.mov (.const (.int .i64 0))), none⟩,
   ⟨(some 3), .op (.mov (.const (.int .i64 0))), none⟩])
 (.ret [false, false, true, true, false, false, false, false, false, false, false, false, false, false, false, false, false, false, false, false, false, false, false, false, false, false, false, false, false, false, false, false, false, false, false, false, false]))))⟩
theorem ok9 : FnOK Try.prog 9 c9 := ⟨Try.f9, _, Try.func9, by kernel_rfl, rfl, by kernel_rfl, by kernel_rfl, by kernel_rfl⟩

/-- sizar/op.Pre. -/
def c10 : AFun := ⟨11, [.cell 4 (some 3), .tmp 5], false, (.seq (.reg [⟨(some 2), .op (.box (.tmp 0)), none⟩,
   ⟨(some 4), .op (.box (.const (.agg [(.str []), (.str []), (.int .i64 0)]))), none⟩,
   ⟨(some 5), .op (.mov (.const (.bool false))), none⟩])
 (.seq (.reg [⟨(some 6), .op (.ld (some 1) (.tmp 2)), none⟩,
   ⟨(some 7), .op (.mov (.tmp 1)), none⟩,
   ⟨(some 8), .call 25 [(.tmp 6), (.tmp 7), (.const (.bool true))], none⟩,
   ⟨(some 9), .op (.ext (.tmp 8) 0), none⟩,
   ⟨(some 10), .op (.ext (.tmp 8) 1), none⟩,
   ⟨none, .op (.st 3 (.tmp 4) (.tmp 9)), none⟩,
   ⟨(some 5), .op (.mov (.tmp 10)), none⟩])
 (.ret [false, false, false, false, true, true, false, false, false, false, false])))⟩
theorem ok10 : FnOK Try.prog 10 c10 := ⟨Try.f10, _, Try.func10, by kernel_rfl, rfl, by kernel_rfl, by kernel_rfl, by kernel_rfl⟩

/-- sizar/op.In. -/
def c11 : AFun := ⟨11, [.cell 4 (some 3), .tmp 5], false, (.seq (.reg [⟨(some 2), .op (.box (.tmp 0)), none⟩,
   ⟨(some 4), .op (.box (.const (.agg [(.str []), (.str []), (.int .i64 0)]))), none⟩,
   ⟨(some 5), .op (.mov (.const (.bool false))), none⟩])
 (.seq (.reg [⟨(some 6), .op (.ld (some 1) (.tmp 2)), none⟩,
   ⟨(some 7), .op (.mov (.tmp 1)), none⟩,
   ⟨(some 8), .call 25 [(.tmp 6), (.tmp 7), (.const (.bool false))], none⟩,
   ⟨(some 9), .op (.ext (.tmp 8) 0), none⟩,
   ⟨(some 10), .op (.ext (.tmp 8) 1), none⟩,
   ⟨none, .op (.st 3 (.tmp 4) (.tmp 9)), none⟩,
   ⟨(some 5), .op (.mov (.tmp 10)), none⟩])
 (.ret [false, false, false, false, true, true, false, false, false, false, false])))⟩
theorem ok11 : FnOK Try.prog 11 c11 := ⟨Try.f11, _, Try.func11, by kernel_rfl, rfl, by kernel_rfl, by kernel_rfl, by kernel_rfl⟩

/-- sizar/op.Plain. -/
def c12 : AFun := ⟨27, [.cell 0 (some 1)], false, (.seq (.reg [⟨(some 0), .op (.box (.const (.agg [.nils]))), none⟩])
 (.seq (.reg [⟨(some 3), .op (.bld [(.str []), (.str []), (.int .i64 0)] [(0, 1, (.const (.str [58, 45]))), (1, 1, (.const (.str [120, 102, 120]))), (2, 1, (.const (.int .i64 1200)))]), none⟩,
   ⟨(some 4), .op (.bld [(.str []), (.str []), (.int .i64 0)] [(0, 1, (.const (.str [59]))), (1, 1, (.const (.str [120, 102, 121]))), (2, 1, (.const (.int .i64 1100)))]), none⟩,
   ⟨(some 5), .op (.bld [(.str []), (.str []), (.int .i64 0)] [(0, 1, (.const (.str [45, 62]))), (1, 1, (.const (.str [120, 102, 121]))), (2, 1, (.const (.int .i64 1050)))]), none⟩,
   ⟨(some 6), .op (.bld [(.str []), (.str []), (.int .i64 0)] [(0, 1, (.const (.str [44]))), (1, 1, (.const (.str [120, 102, 121]))), (2, 1, (.const (.int .i64 1000)))]), none⟩,
   ⟨(some 7), .op (.bld [(.str []), (.str []), (.int .i64 0)] [(0, 1, (.const (.str [92, 43]))), (1, 1, (.const (.str [102, 121]))), (2, 1, (.const (.int .i64 900)))]), none⟩,
   ⟨(some 8), .op (.bsl 3 5 [(.str []), (.str []), (.int .i64 0), (.str []), (.str []), (.int .i64 0), (.str []), (.str []), (.int .i64 0), (.str []), (.str []), (.int .i64 0), (.str []), (.str []), (.int .i64 0)] [(0, (.tmp 3)), (1, (.tmp 4)), (2, (.tmp 5)), (3, (.tmp 6)), (4, (.tmp 7))]), none⟩,
   ⟨(some 9), .op (.bld [.nils] [(0, 1, (.tmp 8))]), none⟩,
   ⟨(some 1), .op (.box (.const (.agg [.nils]))), none⟩,
   ⟨none, .op (.st 1 (.tmp 1) (.tmp 9)), none⟩])
 (.seq (.reg [⟨(some 10), .op (.mkf 26 [(.tmp 1)]), none⟩,
   ⟨(some 2), .op (.mov (.tmp 10)), none⟩])
 (.seq (.reg [⟨(some 11), .op (.mov (.tmp 2)), none⟩,
   ⟨(some 12), .op (.bsl 1 16 [(.str []), (.str []), (.str []), (.str []), (.str []), (.str []), (.str []), (.str []), (.str []), (.str []), (.str []), (.str []), (.str []), (.str []), (.str []), (.str [])] [(0, (.const (.str [61]))), (1, (.const (.str [92, 61]))), (2, (.const (.str [61, 61]))), (3, (.const (.str [92, 61, 61]))), (4, (.const (.str [64, 60]))), (5, (.const (.str [64, 62]))), (6, (.const (.str [64, 61, 60]))), (7, (.const (.str [64, 62, 61]))), (8, (.const (.str [61, 46, 46]))), (9, (.const (.str [105, 115]))), (10, (.const (.str [61, 58, 61]))), (11, (.const (.str [61, 92, 61]))), (12, (.const (.str [60]))), (13, (.const (.str [62]))), (14, (.const (.str [61, 60]))), (15, (.const (.str [62, 61])))]), none⟩,
   ⟨(some 13), .callv (.tmp 11) [(.const (.str [120, 102, 120])), (.const (.int .i64 700)), (.tmp 12)], none⟩])
 (.seq (.reg [⟨(some 14), .op (.mov (.tmp 2)), none⟩,
   ⟨(some 15), .op (.bsl 1 5 [(.str []), (.str []), (.str []), (.str []), (.str [])] [(0, (.const (.str [43]))), (1, (.const (.str [45]))), (2, (.const (.str [47, 92]))), (3, (.const (.str [92, 47]))), (4, (.const (.str [120, 111, 114])))]), none⟩,
   ⟨(some 16), .callv (.tmp 14) [(.const (.str [121, 102, 120])), (.const (.int .i64 500)), (.tmp 15)], none⟩])
 (.seq (.reg [⟨(some 17), .op (.mov (.tmp 2)), none⟩,
   ⟨(some 18), .op (.bsl 1 6 [(.str []), (.str []), (.str []), (.str []), (.str []), (.str [])] [(0, (.const (.str [42]))), (1, (.const (.str [47, 47]))), (2, (.const (.str [109, 111, 100]))), (3, (.const (.str [114, 101, 109]))), (4, (.const (.str [62, 62]))), (5, (.const (.str [60, 60])))]), none⟩,
   ⟨(some 19), .callv (.tmp 17) [(.const (.str [121, 102, 120])), (.const (.int .i64 400)), (.tmp 18)], none⟩])
 (.seq (.reg [⟨(some 20), .op (.mov (.tmp 2)), none⟩,
   ⟨(some 21), .op (.bsl 1 1 [(.str [])] [(0, (.const (.str [94])))]), none⟩,
   ⟨(some 22), .callv (.tmp 20) [(.const (.str [120, 102, 121])), (.const (.int .i64 200)), (.tmp 21)], none⟩])
 (.seq (.reg [⟨(some 23), .op (.mov (.tmp 2)), none⟩,
   ⟨(some 24), .op (.bsl 1 2 [(.str []), (.str [])] [(0, (.const (.str [45]))), (1, (.const (.str [92])))]), none⟩,
   ⟨(some 25), .callv (.tmp 23) [(.const (.str [102, 121])), (.const (.int .i64 200)), (.tmp 24)], none⟩])
 (.seq (.reg [⟨(some 26), .op (.ld (some 1) (.tmp 1)), none⟩,
   ⟨none, .op (.st 1 (.tmp 0) (.tmp 26)), none⟩])
 (.ret [true, false, false, false, false, false, false, false, false, false, false, false, false, false, false, false, false, false, false, false, false, false, false, false, false, false, false]))))))))))⟩
theorem ok12 : FnOK Try.prog 12 c12 := ⟨Try.f12, _, Try.func12, by kernel_rfl, rfl, by kernel_rfl, by kernel_rfl, by kernel_rfl⟩

/-- sizar/op.Add. -/
def c13 : AFun := ⟨71, [.cell 4 (some 1), .tmp 5], false, (.seq (.reg [⟨(some 2), .op (.box (.tmp 0)), none⟩,
   ⟨(some 3), .op (.box (.tmp 1)), none⟩,
   ⟨(some 4), .op (.box (.const (.agg [.nils]))), none⟩,
   ⟨(some 5), .op (.mov (.const (.int .i64 0))), none⟩])
 (.seq (.reg [⟨(some 9), .op (.ld (some 3) (.tmp 3)), none⟩,
   ⟨(some 6), .op (.box (.const (.agg [(.str []), (.str []), (.int .i64 0)]))), none⟩,
   ⟨none, .op (.st 3 (.tmp 6) (.tmp 9)), none⟩])
 (.seq (.seq (.reg [⟨(some 10), .op (.fad 2 (.tmp 3)), none⟩,
   ⟨(some 11), .op (.ld none (.tmp 10)), none⟩,
   ⟨(some 12), .op (.bin .eql (.tmp 11) (.const (.int .i64 0))), none⟩])
 (.cond (.tmp 12) (.reg [⟨(some 13), .op (.fad 2 (.tmp 6)), none⟩,
    ⟨none, .op (.st 1 (.tmp 13) (.const (.int .i64 1))), none⟩])
 .skip))
 (.seq (.block 0 (.seq (.reg [⟨(some 15), .op (.ld (some 1) (.tmp 2)), none⟩,
    ⟨(some 16), .call 8 [(.tmp 15)], none⟩,
    ⟨(some 17), .op (.un .not (.tmp 16)), none⟩,
    ⟨(some 14), .op (.mov (.tmp 17)), none⟩])
  (.cond (.tmp 14) (.seq (.reg [⟨(some 18), .op (.bld [.nils] []), none⟩,
     ⟨none, .op (.st 1 (.tmp 4) (.tmp 18)), none⟩,
     ⟨(some 5), .op (.mov (.const (.int .i64 1))), none⟩])
   (.ret [false, false, false, false, true, true, false, false, false, false, false, false, false, false, false, false, false, false, false, false, false, false, false, false, false, false, false, false, false, false, false, false, false, false, false, false, false, false, false, false, false, false, false, false, false, false, false, false, false, false, false, false, false, false, false, false, false, false, false, false, false, false, false, false, false, false, false, false, false, false, false]))
  (.seq (.reg [⟨(some 20), .op (.fad 0 (.tmp 3)), none⟩,
     ⟨(some 21), .op (.ld none (.tmp 20)), none⟩,
     ⟨(some 22), .op (.bin .eql (.tmp 21) (.const (.str [44]))), none⟩,
     ⟨(some 19), .op (.mov (.tmp 22)), none⟩])
   (.cond (.tmp 19) (.seq (.reg [⟨(some 23), .op (.bld [.nils] []), none⟩,
      ⟨none, .op (.st 1 (.tmp 4) (.tmp 23)), none⟩,
      ⟨(some 5), .op (.mov (.const (.int .i64 8))), none⟩])
    (.ret [false, false, false, false, true, true, false, false, false, false, false, false, false, false, false, false, false, false, false, false, false, false, false, false, false, false, false, false, false, false, false, false, false, false, false, false, false, false, false, false, false, false, false, false, false, false, false, false, false, false, false, false, false, false, false, false, false, false, false, false, false, false, false, false, false, false, false, false, false, false, false]))
   (.seq (.reg [⟨(some 25), .op (.ld (some 3) (.tmp 6)), none⟩,
      ⟨(some 26), .call 23 [(.tmp 25)], none⟩,
      ⟨(some 27), .op (.un .not (.tmp 26)), none⟩,
      ⟨(some 24), .op (.mov (.tmp 27)), none⟩])
    (.cond (.tmp 24) (.seq (.reg [⟨(some 28), .op (.bld [.nils] []), none⟩,
       ⟨none, .op (.st 1 (.tmp 4) (.tmp 28)), none⟩,
       ⟨(some 5), .op (.mov (.const (.int .i64 1))), none⟩])
     (.ret [false, false, false, false, true, true, false, false, false, false, false, false, false, false, false, false, false, false, false, false, false, false, false, false, false, false, false, false, false, false, false, false, false, false, false, false, false, false, false, false, false, false, false, false, false, false, false, false, false, false, false, false, false, false, false, false, false, false, false, false, false, false, false, false, false, false, false, false, false, false, false]))
    .skip)))))))
 (.seq (.reg [⟨(some 29), .op (.fad 0 (.tmp 2)), none⟩,
   ⟨(some 30), .op (.ld none (.tmp 29)), none⟩,
   ⟨(some 31), .call 27 [(.tmp 30)], none⟩,
   ⟨(some 7), .op (.mov (.tmp 31)), none⟩])
 (.seq (.reg [⟨(some 32), .op (.mov (.tmp 7)), none⟩,
   ⟨(some 33), .op (.mkf 29 [(.tmp 3)]), none⟩,
   ⟨(some 34), .call 28 [(.tmp 32), (.tmp 33)], none⟩,
   ⟨(some 8), .op (.mov (.tmp 34)), none⟩])
 (.seq (.block 1 (.seq (.reg [⟨(some 40), .op (.fad 2 (.tmp 3)), none⟩,
    ⟨(some 41), .op (.ld none (.tmp 40)), none⟩,
    ⟨(some 42), .op (.bin .eql (.tmp 41) (.const (.int .i64 0))), none⟩,
    ⟨(some 43), .op (.mov (.tmp 42)), none⟩,
    ⟨(some 44), .op (.mov (.tmp 8)), (some (43, true))⟩,
    ⟨(some 45), .op (.bin .lss (.tmp 44) (.const (.int .i64 0))), (some (43, true))⟩,
    ⟨(some 46), .op (.pick (.tmp 43) (.tmp 45) (.const (.bool false))), none⟩,
    ⟨(some 39), .op (.mov (.tmp 46)), none⟩])
  (.cond (.tmp 39) (.seq (.reg [⟨(some 47), .op (.bld [.nils] []), none⟩,
     ⟨none, .op (.st 1 (.tmp 4) (.tmp 47)), none⟩,
     ⟨(some 5), .op (.mov (.const (.int .i64 13))), none⟩])
   (.ret [false, false, false, false, true, true, false, false, false, false, false, false, false, false, false, false, false, false, false, false, false, false, false, false, false, false, false, false, false, false, false, false, false, false, false, false, false, false, false, false, false, false, false, false, false, false, false, false, false, false, false, false, false, false, false, false, false, false, false, false, false, false, false, false, false, false, false, false, false, false, false]))
  (.seq (.reg [⟨(some 49), .op (.fad 2 (.tmp 3)), none⟩,
     ⟨(some 50), .op (.ld none (.tmp 49)), none⟩,
     ⟨(some 51), .op (.bin .eql (.tmp 50) (.const (.int .i64 0))), none⟩,
     ⟨(some 48), .op (.mov (.tmp 51)), none⟩])
   (.cond (.tmp 48) (.reg [⟨(some 52), .op (.mov (.tmp 7)), none⟩,
      ⟨(some 53), .op (.mov (.tmp 8)), none⟩,
      ⟨(some 54), .op (.mov (.tmp 8)), none⟩,
      ⟨(some 55), .op (.bin .add (.tmp 54) (.const (.int .i64 1))), none⟩,
      ⟨(some 56), .call 30 [(.tmp 52), (.tmp 53), (.tmp 55)], none⟩,
      ⟨(some 7), .op (.mov (.tmp 56)), none⟩])
   (.seq (.reg [⟨(some 58), .op (.mov (.tmp 8)), none⟩,
      ⟨(some 59), .op (.bin .geq (.tmp 58) (.const (.int .i64 0))), none⟩,
      ⟨(some 57), .op (.mov (.tmp 59)), none⟩])
    (.cond (.tmp 57) (.reg [⟨(some 60), .op (.mov (.tmp 7)), none⟩,
       ⟨(some 61), .op (.mov (.tmp 8)), none⟩,
       ⟨(some 62), .op (.ld (some 3) (.tmp 3)), none⟩,
       ⟨(some 63), .op (.iad 3 (.tmp 60) (.tmp 61)), none⟩,
       ⟨none, .op (.st 3 (.tmp 63) (.tmp 62)), none⟩])
    (.seq (.reg [⟨(some 65), .op (.mov (.tmp 7)), none⟩,
       ⟨(some 66), .op (.lenv (.tmp 65)), none⟩,
       ⟨(some 67), .op (.bin .geq (.tmp 66) (.const (.int .i64 128))), none⟩,
       ⟨(some 64), .op (.mov (.tmp 67)), none⟩])
     (.cond (.tmp 64) (.seq (.reg [⟨(some 68), .op (.bld [.nils] []), none⟩,
        ⟨none, .op (.st 1 (.tmp 4) (.tmp 68)), none⟩,
        ⟨(some 5), .op (.mov (.const (.int .i64 14))), none⟩])
      (.ret [false, false, false, false, true, true, false, false, false, false, false, false, false, false, false, false, false, false, false, false, false, false, false, false, false, false, false, false, false, false, false, false, false, false, false, false, false, false, false, false, false, false, false, false, false, false, false, false, false, false, false, false, false, false, false, false, false, false, false, false, false, false, false, false, false, false, false, false, false, false, false]))
     (.reg [⟨(some 35), .op (.mov (.tmp 7)), none⟩,
        ⟨(some 36), .op (.ld (some 3) (.tmp 3)), none⟩,
        ⟨(some 37), .op (.bsl 3 1 [(.str []), (.str []), (.int .i64 0)] [(0, (.tmp 36))]), none⟩,
        ⟨(some 38), .op (.app 3 40 (.tmp 35) (.tmp 37)), none⟩,
        ⟨(some 7), .op (.mov (.tmp 38)), none⟩]))))))))))
 (.seq (.reg [⟨(some 69), .op (.mov (.tmp 7)), none⟩,
   ⟨(some 70), .op (.bld [.nils] [(0, 1, (.tmp 69))]), none⟩,
   ⟨none, .op (.st 1 (.tmp 4) (.tmp 70)), none⟩,
   ⟨(some 5), .op (.mov (.const (.int .i64 0))), none⟩])
 (.ret [false, false, false, false, true, true, false, false, false, false, false, false, false, false, false, false, false, false, false, false, false, false, false, false, false, false, false, false, false, false, false, false, false, false, false, false, false, false, false, false, false, false, false, false, false, false, false, false, false, false, false, false, false, false, false, false, false, false, false, false, false, false, false, false, false, false, false, false, false, false, false])))))))))⟩
theorem ok13 : FnOK Try.prog 13 c13 := ⟨Try.f13, _, Try.func13, by kernel_rfl, rfl, by kernel_rfl, by kernel_rfl, by kernel_rfl⟩

/-- sizar/sizarlaw5.same. -/
def c14_m0 : List Bool := [true, true, false, false, false, true, false, false, false, false, false, false, false, false, false, false, false, false, false, false, false, false, false, false, false, false]
abbrev c14_f0 (v0 v1 v5 : AV) : List AV := [v0, v1, .undef, .undef, .undef, v5, .undef, .undef, .undef, .undef, .undef, .undef, .undef, .undef, .undef, .undef, .undef, .undef, .undef, .undef, .undef, .undef, .undef, .undef, .undef, .undef]
def c14_b0 : ACode := (.seq (.seq (.reg [⟨(some 11), .op (.mov (.tmp 5)), none⟩,
   ⟨(some 12), .op (.mov (.tmp 0)), none⟩,
   ⟨(some 13), .op (.lenv (.tmp 12)), none⟩,
   ⟨(some 14), .op (.bin .lss (.tmp 11) (.tmp 13)), none⟩])
 (.cond (.tmp 14) .skip
 (.exit 0 [false, false, false, false, false, false, false, false, false, false, false, false, false, false, false, false, false, false, false, false, false, false, false, false, false, false])))
 (.seq (.block 1 (.seq (.reg [⟨(some 17), .op (.mov (.tmp 0)), none⟩,
    ⟨(some 18), .op (.mov (.tmp 5)), none⟩,
    ⟨(some 19), .op (.iad 3 (.tmp 17) (.tmp 18)), none⟩,
    ⟨(some 20), .op (.ld (some 3) (.tmp 19)), none⟩,
    ⟨(some 21), .op (.mov (.tmp 1)), none⟩,
    ⟨(some 22), .op (.mov (.tmp 5)), none⟩,
    ⟨(some 23), .op (.iad 3 (.tmp 21) (.tmp 22)), none⟩,
    ⟨(some 24), .op (.ld (some 3) (.tmp 23)), none⟩,
    ⟨(some 25), .op (.ceq [2, 2, 1] true (.tmp 20) (.tmp 24)), none⟩])
  (.cond (.tmp 25) (.seq (.reg [⟨(some 4), .op (.mov (.const (.bool false))), none⟩])
   (.ret [false, false, false, false, true, false, false, false, false, false, false, false, false, false, false, false, false, false, false, false, false, false, false, false, false, false]))
  .skip)))
 (.reg [⟨(some 15), .op (.mov (.tmp 5)), none⟩,
   ⟨(some 16), .op (.bin .add (.tmp 15) (.const (.int .i64 1))), none⟩,
   ⟨(some 5), .op (.mov (.tmp 16)), none⟩])))
def c14 : AFun := ⟨26, [.tmp 4], false, (.seq (.reg [⟨(some 4), .op (.mov (.const (.bool false))), none⟩])
 (.seq (.seq (.reg [⟨(some 6), .op (.mov (.tmp 0)), none⟩,
   ⟨(some 7), .op (.lenv (.tmp 6)), none⟩,
   ⟨(some 8), .op (.mov (.tmp 1)), none⟩,
   ⟨(some 9), .op (.lenv (.tmp 8)), none⟩,
   ⟨(some 10), .op (.bin .neq (.tmp 7) (.tmp 9)), none⟩])
 (.cond (.tmp 10) (.seq (.reg [⟨(some 4), .op (.mov (.const (.bool false))), none⟩])
  (.ret [false, false, false, false, true, false, false, false, false, false, false, false, false, false, false, false, false, false, false, false, false, false, false, false, false, false]))
 .skip))
 (.seq (.seq (.reg [⟨(some 5), .op (.mov (.const (.int .i64 0))), none⟩])
 (.block 0 (.loop c14_m0 c14_b0)))
 (.seq (.reg [⟨(some 4), .op (.mov (.const (.bool true))), none⟩])
 (.ret [false, false, false, false, true, false, false, false, false, false, false, false, false, false, false, false, false, false, false, false, false, false, false, false, false, false])))))⟩
theorem ok14 : FnOK Try.prog 14 c14 := ⟨Try.f14, _, Try.func14, by kernel_rfl, rfl, by kernel_rfl, by kernel_rfl, by kernel_rfl⟩

/-- sizar/sizarlaw5.ownOps. -/
def c15_m0 : List Bool := [false, true, false, true, true, false, false, false, false, false, false, false, false, false, false, false, false, false, false, false, false, false, false, false, false, false, false, false, false, false, false, false, false, false, false]
abbrev c15_f0 (v1 v3 v4 : AV) : List AV := [.undef, v1, .undef, v3, v4, .undef, .undef, .undef, .undef, .undef, .undef, .undef, .undef, .undef, .undef, .undef, .undef, .undef, .undef, .undef, .undef, .undef, .undef, .undef, .undef, .undef, .undef, .undef, .undef, .undef, .undef, .undef, .undef, .undef, .undef]
def c15_b0 : ACode := (.seq (.seq (.reg [⟨(some 5), .op (.mov (.tmp 4)), none⟩,
   ⟨(some 6), .op (.fad 0 (.tmp 1)), none⟩,
   ⟨(some 7), .op (.ld none (.tmp 6)), none⟩,
   ⟨(some 8), .op (.lenv (.tmp 7)), none⟩,
   ⟨(some 9), .op (.bin .lss (.tmp 5) (.tmp 8)), none⟩])
 (.cond (.tmp 9) .skip
 (.exit 0 [false, false, false, true, false, false, false, false, false, false, false, false, false, false, false, false, false, false, false, false, false, false, false, false, false, false, false, false, false, false, false, false, false, false, false])))
 (.seq (.block 1 (.reg [⟨(some 12), .op (.mov (.tmp 3)), none⟩,
    ⟨(some 13), .op (.fad 0 (.tmp 1)), none⟩,
    ⟨(some 14), .op (.ld none (.tmp 13)), none⟩,
    ⟨(some 15), .op (.mov (.tmp 4)), none⟩,
    ⟨(some 16), .op (.iad 3 (.tmp 14) (.tmp 15)), none⟩,
    ⟨(some 17), .op (.fad 0 (.tmp 16)), none⟩,
    ⟨(some 18), .op (.ld none (.tmp 17)), none⟩,
    ⟨(some 19), .op (.fad 0 (.tmp 1)), none⟩,
    ⟨(some 20), .op (.ld none (.tmp 19)), none⟩,
    ⟨(some 21), .op (.mov (.tmp 4)), none⟩,
    ⟨(some 22), .op (.iad 3 (.tmp 20) (.tmp 21)), none⟩,
    ⟨(some 23), .op (.fad 1 (.tmp 22)), none⟩,
    ⟨(some 24), .op (.ld none (.tmp 23)), none⟩,
    ⟨(some 25), .op (.fad 0 (.tmp 1)), none⟩,
    ⟨(some 26), .op (.ld none (.tmp 25)), none⟩,
    ⟨(some 27), .op (.mov (.tmp 4)), none⟩,
    ⟨(some 28), .op (.iad 3 (.tmp 26) (.tmp 27)), none⟩,
    ⟨(some 29), .op (.fad 2 (.tmp 28)), none⟩,
    ⟨(some 30), .op (.ld none (.tmp 29)), none⟩,
    ⟨(some 31), .op (.bld [(.str []), (.str []), (.int .i64 0)] [(0, 1, (.tmp 18)), (1, 1, (.tmp 24)), (2, 1, (.tmp 30))]), none⟩,
    ⟨(some 32), .op (.bsl 3 1 [(.str []), (.str []), (.int .i64 0)] [(0, (.tmp 31))]), none⟩,
    ⟨(some 33), .op (.app 3 40 (.tmp 12) (.tmp 32)), none⟩,
    ⟨(some 3), .op (.mov (.tmp 33)), none⟩]))
 (.reg [⟨(some 10), .op (.mov (.tmp 4)), none⟩,
   ⟨(some 11), .op (.bin .add (.tmp 10) (.const (.int .i64 1))), none⟩,
   ⟨(some 4), .op (.mov (.tmp 11)), none⟩])))
def c15 : AFun := ⟨35, [.tmp 2], false, (.seq (.reg [⟨(some 1), .op (.box (.tmp 0)), none⟩,
   ⟨(some 2), .op (.mov (.const .nils)), none⟩])
 (.seq (.reg [⟨(some 3), .op (.mov (.const .nils)), none⟩])
 (.seq (.seq (.reg [⟨(some 4), .op (.mov (.const (.int .i64 0))), none⟩])
 (.block 0 (.loop c15_m0 c15_b0)))
 (.seq (.reg [⟨(some 34), .op (.mov (.tmp 3)), none⟩,
   ⟨(some 2), .op (.mov (.tmp 34)), none⟩])
 (.ret [false, false, true, false, false, false, false, false, false, false, false, false, false, false, false, false, false, false, false, false, false, false, false, false, false, false, false, false, false, false, false, false, false, false, false])))))⟩
theorem ok15 : FnOK Try.prog 15 c15 := ⟨Try.f15, _, Try.func15, by kernel_rfl, rfl, by kernel_rfl, by kernel_rfl, by kernel_rfl⟩

/-- sizar/sizarref24.PlainOps. -/
def c16_m0 : List Bool := [false, true, true, true, false, false, false, false, false, false, false, false, false, false, false, false, false, false, false, false, false, false, false, false, false, false, false, false, false, false, false, false, false, false, false, false, false, false, false, false, false, false, false, false, false, false, false, false, false, false, false, false, false, false, false, false, false, false, false, false, false, false, false, false, false]
abbrev c16_f0 (v1 v2 v3 : AV) : List AV := [.undef, v1, v2, v3, .undef, .undef, .undef, .undef, .undef, .undef, .undef, .undef, .undef, .undef, .undef, .undef, .undef, .undef, .undef, .undef, .undef, .undef, .undef, .undef, .undef, .undef, .undef, .undef, .undef, .undef, .undef, .undef, .undef, .undef, .undef, .undef, .undef, .undef, .undef, .undef, .undef, .undef, .undef, .undef, .undef, .undef, .undef, .undef, .undef, .undef, .undef, .undef, .undef, .undef, .undef, .undef, .undef, .undef, .undef, .undef, .undef, .undef, .undef, .undef, .undef]
def c16_b0 : ACode := (.seq (.seq (.reg [⟨(some 15), .op (.mov (.tmp 3)), none⟩,
   ⟨(some 16), .op (.mov (.tmp 2)), none⟩,
   ⟨(some 17), .op (.lenv (.tmp 16)), none⟩,
   ⟨(some 18), .op (.bin .lss (.tmp 15) (.tmp 17)), none⟩])
 (.cond (.tmp 18) .skip
 (.exit 0 [false, true, false, false, false, false, false, false, false, false, false, false, false, false, false, false, false, false, false, false, false, false, false, false, false, false, false, false, false, false, false, false, false, false, false, false, false, false, false, false, false, false, false, false, false, false, false, false, false, false, false, false, false, false, false, false, false, false, false, false, false, false, false, false, false])))
 (.seq (.block 1 (.reg [⟨(some 21), .op (.mov (.tmp 1)), none⟩,
    ⟨(some 22), .op (.mov (.tmp 2)), none⟩,
    ⟨(some 23), .op (.mov (.tmp 3)), none⟩,
    ⟨(some 24), .op (.iad 1 (.tmp 22) (.tmp 23)), none⟩,
    ⟨(some 25), .op (.ld none (.tmp 24)), none⟩,
    ⟨(some 26), .op (.bld [(.str []), (.str []), (.int .i64 0)] [(0, 1, (.tmp 25)), (1, 1, (.const (.str [120, 102, 120]))), (2, 1, (.const (.int .i64 700)))]), none⟩,
    ⟨(some 27), .op (.bsl 3 1 [(.str []), (.str []), (.int .i64 0)] [(0, (.tmp 26))]), none⟩,
    ⟨(some 28), .op (.app 3 40 (.tmp 21) (.tmp 27)), none⟩,
    ⟨(some 1), .op (.mov (.tmp 28)), none⟩]))
 (.reg [⟨(some 19), .op (.mov (.tmp 3)), none⟩,
   ⟨(some 20), .op (.bin .add (.tmp 19) (.const (.int .i64 1))), none⟩,
   ⟨(some 3), .op (.mov (.tmp 20)), none⟩])))
def c16_m1 : List Bool := [false, true, false, false, true, true, false, false, false, false, false, false, false, false, false, false, false, false, false, false, false, false, false, false, false, false, false, false, false, false, false, false, false, false, false, false, false, false, false, false, false, false, false, false, false, false, false, false, false, false, false, false, false, false, false, false, false, false, false, false, false, false, false, false, false]
abbrev c16_f1 (v1 v4 v5 : AV) : List AV := [.undef, v1, .undef, .undef, v4, v5, .undef, .undef, .undef, .undef, .undef, .undef, .undef, .undef, .undef, .undef, .undef, .undef, .undef, .undef, .undef, .undef, .undef, .undef, .undef, .undef, .undef, .undef, .undef, .undef, .undef, .undef, .undef, .undef, .undef, .undef, .undef, .undef, .undef, .undef, .undef, .undef, .undef, .undef, .undef, .undef, .undef, .undef, .undef, .undef, .undef, .undef, .undef, .undef, .undef, .undef, .undef, .undef, .undef, .undef, .undef, .undef, .undef, .undef, .undef]
def c16_b1 : ACode := (.seq (.seq (.reg [⟨(some 30), .op (.mov (.tmp 5)), none⟩,
   ⟨(some 31), .op (.mov (.tmp 4)), none⟩,
   ⟨(some 32), .op (.lenv (.tmp 31)), none⟩,
   ⟨(some 33), .op (.bin .lss (.tmp 30) (.tmp 32)), none⟩])
 (.cond (.tmp 33) .skip
 (.exit 2 [false, true, false, false, false, false, false, false, false, false, false, false, false, false, false, false, false, false, false, false, false, false, false, false, false, false, false, false, false, false, false, false, false, false, false, false, false, false, false, false, false, false, false, false, false, false, false, false, false, false, false, false, false, false, false, false, false, false, false, false, false, false, false, false, false])))
 (.seq (.block 3 (.reg [⟨(some 36), .op (.mov (.tmp 1)), none⟩,
    ⟨(some 37), .op (.mov (.tmp 4)), none⟩,
    ⟨(some 38), .op (.mov (.tmp 5)), none⟩,
    ⟨(some 39), .op (.iad 1 (.tmp 37) (.tmp 38)), none⟩,
    ⟨(some 40), .op (.ld none (.tmp 39)), none⟩,
    ⟨(some 41), .op (.bld [(.str []), (.str []), (.int .i64 0)] [(0, 1, (.tmp 40)), (1, 1, (.const (.str [121, 102, 120]))), (2, 1, (.const (.int .i64 500)))]), none⟩,
    ⟨(some 42), .op (.bsl 3 1 [(.str []), (.str []), (.int .i64 0)] [(0, (.tmp 41))]), none⟩,
    ⟨(some 43), .op (.app 3 40 (.tmp 36) (.tmp 42)), none⟩,
    ⟨(some 1), .op (.mov (.tmp 43)), none⟩]))
 (.reg [⟨(some 34), .op (.mov (.tmp 5)), none⟩,
   ⟨(some 35), .op (.bin .add (.tmp 34) (.const (.int .i64 1))), none⟩,
   ⟨(some 5), .op (.mov (.tmp 35)), none⟩])))
def c16_m2 : List Bool := [false, true, false, false, false, false, true, true, false, false, false, false, false, false, false, false, false, false, false, false, false, false, false, false, false, false, false, false, false, false, false, false, false, false, false, false, false, false, false, false, false, false, false, false, false, false, false, false, false, false, false, false, false, false, false, false, false, false, false, false, false, false, false, false, false]
abbrev c16_f2 (v1 v6 v7 : AV) : List AV := [.undef, v1, .undef, .undef, .undef, .undef, v6, v7, .undef, .undef, .undef, .undef, .undef, .undef, .undef, .undef, .undef, .undef, .undef, .undef, .undef, .undef, .undef, .undef, .undef, .undef, .undef, .undef, .undef, .undef, .undef, .undef, .undef, .undef, .undef, .undef, .undef, .undef, .undef, .undef, .undef, .undef, .undef, .undef, .undef, .undef, .undef, .undef, .undef, .undef, .undef, .undef, .undef, .undef, .undef, .undef, .undef, .undef, .undef, .undef, .undef, .undef, .undef, .undef, .undef]
def c16_b2 : ACode := (.seq (.seq (.reg [⟨(some 45), .op (.mov (.tmp 7)), none⟩,
   ⟨(some 46), .op (.mov (.tmp 6)), none⟩,
   ⟨(some 47), .op (.lenv (.tmp 46)), none⟩,
   ⟨(some 48), .op (.bin .lss (.tmp 45) (.tmp 47)), none⟩])
 (.cond (.tmp 48) .skip
 (.exit 4 [false, true, false, false, false, false, false, false, false, false, false, false, false, false, false, false, false, false, false, false, false, false, false, false, false, false, false, false, false, false, false, false, false, false, false, false, false, false, false, false, false, false, false, false, false, false, false, false, false, false, false, false, false, false, false, false, false, false, false, false, false, false, false, false, false])))
 (.seq (.block 5 (.reg [⟨(some 51), .op (.mov (.tmp 1)), none⟩,
    ⟨(some 52), .op (.mov (.tmp 6)), none⟩,
    ⟨(some 53), .op (.mov (.tmp 7)), none⟩,
    ⟨(some 54), .op (.iad 1 (.tmp 52) (.tmp 53)), none⟩,
    ⟨(some 55), .op (.ld none (.tmp 54)), none⟩,
    ⟨(some 56), .op (.bld [(.str []), (.str []), (.int .i64 0)] [(0, 1, (.tmp 55)), (1, 1, (.const (.str [121, 102, 120]))), (2, 1, (.const (.int .i64 400)))]), none⟩,
    ⟨(some 57), .op (.bsl 3 1 [(.str []), (.str []), (.int .i64 0)] [(0, (.tmp 56))]), none⟩,
    ⟨(some 58), .op (.app 3 40 (.tmp 51) (.tmp 57)), none⟩,
    ⟨(some 1), .op (.mov (.tmp 58)), none⟩]))
 (.reg [⟨(some 49), .op (.mov (.tmp 7)), none⟩,
   ⟨(some 50), .op (.bin .add (.tmp 49) (.const (.int .i64 1))), none⟩,
   ⟨(some 7), .op (.mov (.tmp 50)), none⟩])))
def c16 : AFun := ⟨65, [.tmp 0], false, (.seq (.reg [⟨(some 0), .op (.mov (.const .nils)), none⟩])
 (.seq (.reg [⟨(some 8), .op (.bld [(.str []), (.str []), (.int .i64 0)] [(0, 1, (.const (.str [58, 45]))), (1, 1, (.const (.str [120, 102, 120]))), (2, 1, (.const (.int .i64 1200)))]), none⟩,
   ⟨(some 9), .op (.bld [(.str []), (.str []), (.int .i64 0)] [(0, 1, (.const (.str [59]))), (1, 1, (.const (.str [120, 102, 121]))), (2, 1, (.const (.int .i64 1100)))]), none⟩,
   ⟨(some 10), .op (.bld [(.str []), (.str []), (.int .i64 0)] [(0, 1, (.const (.str [45, 62]))), (1, 1, (.const (.str [120, 102, 121]))), (2, 1, (.const (.int .i64 1050)))]), none⟩,
   ⟨(some 11), .op (.bld [(.str []), (.str []), (.int .i64 0)] [(0, 1, (.const (.str [44]))), (1, 1, (.const (.str [120, 102, 121]))), (2, 1, (.const (.int .i64 1000)))]), none⟩,
   ⟨(some 12), .op (.bld [(.str []), (.str []), (.int .i64 0)] [(0, 1, (.const (.str [92, 43]))), (1, 1, (.const (.str [102, 121]))), (2, 1, (.const (.int .i64 900)))]), none⟩,
   ⟨(some 13), .op (.bsl 3 5 [(.str []), (.str []), (.int .i64 0), (.str []), (.str []), (.int .i64 0), (.str []), (.str []), (.int .i64 0), (.str []), (.str []), (.int .i64 0), (.str []), (.str []), (.int .i64 0)] [(0, (.tmp 8)), (1, (.tmp 9)), (2, (.tmp 10)), (3, (.tmp 11)), (4, (.tmp 12))]), none⟩,
   ⟨(some 1), .op (.mov (.tmp 13)), none⟩])
 (.seq (.reg [⟨(some 14), .op (.bsl 1 16 [(.str []), (.str []), (.str []), (.str []), (.str []), (.str []), (.str []), (.str []), (.str []), (.str []), (.str []), (.str []), (.str []), (.str []), (.str []), (.str [])] [(0, (.const (.str [61]))), (1, (.const (.str [92, 61]))), (2, (.const (.str [61, 61]))), (3, (.const (.str [92, 61, 61]))), (4, (.const (.str [64, 60]))), (5, (.const (.str [64, 62]))), (6, (.const (.str [64, 61, 60]))), (7, (.const (.str [64, 62, 61]))), (8, (.const (.str [61, 46, 46]))), (9, (.const (.str [105, 115]))), (10, (.const (.str [61, 58, 61]))), (11, (.const (.str [61, 92, 61]))), (12, (.const (.str [60]))), (13, (.const (.str [62]))), (14, (.const (.str [61, 60]))), (15, (.const (.str [62, 61])))]), none⟩,
   ⟨(some 2), .op (.mov (.tmp 14)), none⟩])
 (.seq (.seq (.reg [⟨(some 3), .op (.mov (.const (.int .i64 0))), none⟩])
 (.block 0 (.loop c16_m0 c16_b0)))
 (.seq (.reg [⟨(some 29), .op (.bsl 1 5 [(.str []), (.str []), (.str []), (.str []), (.str [])] [(0, (.const (.str [43]))), (1, (.const (.str [45]))), (2, (.const (.str [47, 92]))), (3, (.const (.str [92, 47]))), (4, (.const (.str [120, 111, 114])))]), none⟩,
   ⟨(some 4), .op (.mov (.tmp 29)), none⟩])
 (.seq (.seq (.reg [⟨(some 5), .op (.mov (.const (.int .i64 0))), none⟩])
 (.block 2 (.loop c16_m1 c16_b1)))
 (.seq (.reg [⟨(some 44), .op (.bsl 1 6 [(.str []), (.str []), (.str []), (.str []), (.str []), (.str [])] [(0, (.const (.str [42]))), (1, (.const (.str [47, 47]))), (2, (.const (.str [109, 111, 100]))), (3, (.const (.str [114, 101, 109]))), (4, (.const (.str [62, 62]))), (5, (.const (.str [60, 60])))]), none⟩,
   ⟨(some 6), .op (.mov (.tmp 44)), none⟩])
 (.seq (.seq (.reg [⟨(some 7), .op (.mov (.const (.int .i64 0))), none⟩])
 (.block 4 (.loop c16_m2 c16_b2)))
 (.seq (.reg [⟨(some 59), .op (.mov (.tmp 1)), none⟩,
   ⟨(some 60), .op (.bld [(.str []), (.str []), (.int .i64 0)] [(0, 1, (.const (.str [94]))), (1, 1, (.const (.str [120, 102, 121]))), (2, 1, (.const (.int .i64 200)))]), none⟩,
   ⟨(some 61), .op (.bld [(.str []), (.str []), (.int .i64 0)] [(0, 1, (.const (.str [45]))), (1, 1, (.const (.str [102, 121]))), (2, 1, (.const (.int .i64 200)))]), none⟩,
   ⟨(some 62), .op (.bld [(.str []), (.str []), (.int .i64 0)] [(0, 1, (.const (.str [92]))), (1, 1, (.const (.str [102, 121]))), (2, 1, (.const (.int .i64 200)))]), none⟩,
   ⟨(some 63), .op (.bsl 3 3 [(.str []), (.str []), (.int .i64 0), (.str []), (.str []), (.int .i64 0), (.str []), (.str []), (.int .i64 0)] [(0, (.tmp 60)), (1, (.tmp 61)), (2, (.tmp 62))]), none⟩,
   ⟨(some 64), .op (.app 3 40 (.tmp 59) (.tmp 63)), none⟩,
   ⟨(some 0), .op (.mov (.tmp 64)), none⟩])
 (.ret [true, false, false, false, false, false, false, false, false, false, false, false, false, false, false, false, false, false, false, false, false, false, false, false, false, false, false, false, false, false, false, false, false, false, false, false, false, false, false, false, false, false, false, false, false, false, false, false, false, false, false, false, false, false, false, false, false, false, false, false, false, false, false, false, false]))))))))))⟩
theorem ok16 : FnOK Try.prog 16 c16 := ⟨Try.f16, _, Try.func16, by kernel_rfl, rfl, by kernel_rfl, by kernel_rfl, by kernel_rfl⟩

/-- sizar/sizarref1.AddOp. -/
def c17 : AFun := ⟨73, [.tmp 4, .tmp 5], false, (.seq (.reg [⟨(some 3), .op (.box (.tmp 1)), none⟩,
   ⟨(some 4), .op (.mov (.const .nils)), none⟩,
   ⟨(some 5), .op (.mov (.const (.int .i64 0))), none⟩])
 (.seq (.seq (.reg [⟨(some 9), .op (.mov (.tmp 0)), none⟩,
   ⟨(some 10), .call 18 [(.tmp 9)], none⟩,
   ⟨(some 11), .op (.un .not (.tmp 10)), none⟩])
 (.cond (.tmp 11) (.seq (.reg [⟨(some 4), .op (.mov (.const .nils)), none⟩,
    ⟨(some 5), .op (.mov (.const (.int .i64 1))), none⟩])
  (.ret [false, false, false, false, true, true, false, false, false, false, false, false, false, false, false, false, false, false, false, false, false, false, false, false, false, false, false, false, false, false, false, false, false, false, false, false, false, false, false, false, false, false, false, false, false, false, false, false, false, false, false, false, false, false, false, false, false, false, false, false, false, false, false, false, false, false, false, false, false, false, false, false, false]))
 .skip))
 (.seq (.seq (.reg [⟨(some 12), .op (.fad 0 (.tmp 3)), none⟩,
   ⟨(some 13), .op (.ld none (.tmp 12)), none⟩,
   ⟨(some 14), .op (.bin .eql (.tmp 13) (.const (.str [44]))), none⟩])
 (.cond (.tmp 14) (.seq (.reg [⟨(some 4), .op (.mov (.const .nils)), none⟩,
    ⟨(some 5), .op (.mov (.const (.int .i64 8))), none⟩])
  (.ret [false, false, false, false, true, true, false, false, false, false, false, false, false, false, false, false, false, false, false, false, false, false, false, false, false, false, false, false, false, false, false, false, false, false, false, false, false, false, false, false, false, false, false, false, false, false, false, false, false, false, false, false, false, false, false, false, false, false, false, false, false, false, false, false, false, false, false, false, false, false, false, false, false]))
 .skip))
 (.seq (.reg [⟨(some 15), .op (.ld (some 3) (.tmp 3)), none⟩,
   ⟨(some 6), .op (.box (.const (.agg [(.str []), (.str []), (.int .i64 0)]))), none⟩,
   ⟨none, .op (.st 3 (.tmp 6) (.tmp 15)), none⟩])
 (.seq (.seq (.reg [⟨(some 16), .op (.fad 2 (.tmp 6)), none⟩,
   ⟨(some 17), .op (.ld none (.tmp 16)), none⟩,
   ⟨(some 18), .op (.bin .eql (.tmp 17) (.const (.int .i64 0))), none⟩])
 (.cond (.tmp 18) (.reg [⟨(some 19), .op (.fad 2 (.tmp 6)), none⟩,
    ⟨none, .op (.st 1 (.tmp 19) (.const (.int .i64 1))), none⟩])
 .skip))
 (.seq (.seq (.reg [⟨(some 20), .op (.ld (some 3) (.tmp 6)), none⟩,
   ⟨(some 21), .call 31 [(.tmp 20)], none⟩,
   ⟨(some 22), .op (.un .not (.tmp 21)), none⟩])
 (.cond (.tmp 22) (.seq (.reg [⟨(some 4), .op (.mov (.const .nils)), none⟩,
    ⟨(some 5), .op (.mov (.const (.int .i64 1))), none⟩])
  (.ret [false, false, false, false, true, true, false, false, false, false, false, false, false, false, false, false, false, false, false, false, false, false, false, false, false, false, false, false, false, false, false, false, false, false, false, false, false, false, false, false, false, false, false, false, false, false, false, false, false, false, false, false, false, false, false, false, false, false, false, false, false, false, false, false, false, false, false, false, false, false, false, false, false]))
 .skip))
 (.seq (.dreg [⟨(some 23), .op (.mov (.tmp 0)), none⟩,
   ⟨(some 24), .op (.fad 0 (.tmp 3)), none⟩,
   ⟨(some 25), .op (.ld none (.tmp 24)), none⟩,
   ⟨(some 26), .op (.fad 1 (.tmp 3)), none⟩,
   ⟨(some 27), .op (.ld none (.tmp 26)), none⟩,
   ⟨(some 28), .call 32 [(.tmp 27)], none⟩,
   ⟨(some 29), .call 20 [(.tmp 23), (.tmp 25), (.tmp 28)], none⟩,
   ⟨(some 7), .op (.mov (.tmp 29)), none⟩] [(2, 5)])
 (.seq (.block 0 (.seq (.reg [⟨(some 31), .op (.fad 2 (.tmp 3)), none⟩,
    ⟨(some 32), .op (.ld none (.tmp 31)), none⟩,
    ⟨(some 33), .op (.bin .eql (.tmp 32) (.const (.int .i64 0))), none⟩,
    ⟨(some 34), .op (.mov (.tmp 33)), none⟩,
    ⟨(some 35), .op (.mov (.tmp 7)), (some (34, true))⟩,
    ⟨(some 36), .op (.bin .lss (.tmp 35) (.const (.int .i64 0))), (some (34, true))⟩,
    ⟨(some 37), .op (.pick (.tmp 34) (.tmp 36) (.const (.bool false))), none⟩,
    ⟨(some 30), .op (.mov (.tmp 37)), none⟩])
  (.cond (.tmp 30) (.seq (.reg [⟨(some 4), .op (.mov (.const .nils)), none⟩,
     ⟨(some 5), .op (.mov (.const (.int .i64 13))), none⟩])
   (.ret [false, false, false, false, true, true, false, false, false, false, false, false, false, false, false, false, false, false, false, false, false, false, false, false, false, false, false, false, false, false, false, false, false, false, false, false, false, false, false, false, false, false, false, false, false, false, false, false, false, false, false, false, false, false, false, false, false, false, false, false, false, false, false, false, false, false, false, false, false, false, false, false, false]))
  (.seq (.reg [⟨(some 39), .op (.fad 2 (.tmp 3)), none⟩,
     ⟨(some 40), .op (.ld none (.tmp 39)), none⟩,
     ⟨(some 41), .op (.bin .eql (.tmp 40) (.const (.int .i64 0))), none⟩,
     ⟨(some 38), .op (.mov (.tmp 41)), none⟩])
   (.cond (.tmp 38) (.seq (.reg [⟨(some 42), .op (.bs0), none⟩,
      ⟨(some 43), .op (.mov (.tmp 0)), none⟩,
      ⟨(some 44), .op (.mov (.tmp 7)), none⟩,
      ⟨(some 45), .op (.slv 3 (.tmp 43) none (some (.tmp 44)) none), none⟩,
      ⟨(some 46), .op (.app 3 40 (.tmp 42) (.tmp 45)), none⟩,
      ⟨(some 47), .op (.mov (.tmp 0)), none⟩,
      ⟨(some 48), .op (.mov (.tmp 7)), none⟩,
      ⟨(some 49), .op (.bin .add (.tmp 48) (.const (.int .i64 1))), none⟩,
      ⟨(some 50), .op (.slv 3 (.tmp 47) (some (.tmp 49)) none none), none⟩,
      ⟨(some 51), .op (.app 3 40 (.tmp 46) (.tmp 50)), none⟩,
      ⟨(some 4), .op (.mov (.tmp 51)), none⟩,
      ⟨(some 5), .op (.mov (.const (.int .i64 0))), none⟩])
    (.ret [false, false, false, false, true, true, false, false, false, false, false, false, false, false, false, false, false, false, false, false, false, false, false, false, false, false, false, false, false, false, false, false, false, false, false, false, false, false, false, false, false, false, false, false, false, false, false, false, false, false, false, false, false, false, false, false, false, false, false, false, false, false, false, false, false, false, false, false, false, false, false, false, false]))
   (.seq (.reg [⟨(some 53), .op (.mov (.tmp 7)), none⟩,
      ⟨(some 54), .op (.bin .geq (.tmp 53) (.const (.int .i64 0))), none⟩,
      ⟨(some 52), .op (.mov (.tmp 54)), none⟩])
    (.cond (.tmp 52) (.seq (.reg [⟨(some 55), .op (.bs0), none⟩,
       ⟨(some 56), .op (.mov (.tmp 0)), none⟩,
       ⟨(some 57), .op (.app 3 40 (.tmp 55) (.tmp 56)), none⟩,
       ⟨(some 8), .op (.mov (.tmp 57)), none⟩])
     (.seq (.reg [⟨(some 58), .op (.mov (.tmp 8)), none⟩,
       ⟨(some 59), .op (.mov (.tmp 7)), none⟩,
       ⟨(some 60), .op (.ld (some 3) (.tmp 3)), none⟩,
       ⟨(some 61), .op (.iad 3 (.tmp 58) (.tmp 59)), none⟩,
       ⟨none, .op (.st 3 (.tmp 61) (.tmp 60)), none⟩])
     (.seq (.reg [⟨(some 62), .op (.mov (.tmp 8)), none⟩,
       ⟨(some 4), .op (.mov (.tmp 62)), none⟩,
       ⟨(some 5), .op (.mov (.const (.int .i64 0))), none⟩])
     (.ret [false, false, false, false, true, true, false, false, false, false, false, false, false, false, false, false, false, false, false, false, false, false, false, false, false, false, false, false, false, false, false, false, false, false, false, false, false, false, false, false, false, false, false, false, false, false, false, false, false, false, false, false, false, false, false, false, false, false, false, false, false, false, false, false, false, false, false, false, false, false, false, false, false]))))
    (.seq (.reg [⟨(some 64), .op (.mov (.tmp 0)), none⟩,
       ⟨(some 65), .op (.lenv (.tmp 64)), none⟩,
       ⟨(some 66), .op (.bin .geq (.tmp 65) (.const (.int .i64 128))), none⟩,
       ⟨(some 63), .op (.mov (.tmp 66)), none⟩])
     (.cond (.tmp 63) (.seq (.reg [⟨(some 4), .op (.mov (.const .nils)), none⟩,
        ⟨(some 5), .op (.mov (.const (.int .i64 14))), none⟩])
      (.ret [false, false, false, false, true, true, false, false, false, false, false, false, false, false, false, false, false, false, false, false, false, false, false, false, false, false, false, false, false, false, false, false, false, false, false, false, false, false, false, false, false, false, false, false, false, false, false, false, false, false, false, false, false, false, false, false, false, false, false, false, false, false, false, false, false, false, false, false, false, false, false, false, false]))
     .skip)))))))))
 (.seq (.dreg [⟨(some 67), .op (.bs0), none⟩,
   ⟨(some 68), .op (.mov (.tmp 0)), none⟩,
   ⟨(some 69), .op (.app 3 40 (.tmp 67) (.tmp 68)), none⟩,
   ⟨(some 70), .op (.ld (some 3) (.tmp 3)), none⟩,
   ⟨(some 71), .op (.bsl 3 1 [(.str []), (.str []), (.int .i64 0)] [(0, (.tmp 70))]), none⟩,
   ⟨(some 72), .op (.app 3 40 (.tmp 69) (.tmp 71)), none⟩,
   ⟨(some 4), .op (.mov (.tmp 72)), none⟩,
   ⟨(some 5), .op (.mov (.const (.int .i64 0))), none⟩] [(3, 2)])
 (.ret [false, false, false, false, true, true, false, false, false, false, false, false, false, false, false, false, false, false, false, false, false, false, false, false, false, false, false, false, false, false, false, false, false, false, false, false, false, false, false, false, false, false, false, false, false, false, false, false, false, false, false, false, false, false, false, false, false, false, false, false, false, false, false, false, false, false, false, false, false, false, false, false, false]))))))))))⟩
theorem ok17 : FnOK Try.prog 17 c17 := ⟨Try.f17, _, Try.func17, by kernel_rfl, rfl, by kernel_rfl, by kernel_rfl, by kernel_rfl⟩

/-- sizar/sizarref1.GoodOps. -/
def c18_m0 : List Bool := [true, false, false, true, true, false, false, false, false, false, false, false, false, false, false, false, false, false, false, false, false, false, false, false, false, false, false, false, false, false, false, false, false, false, false, false, false, false, false, false, false, false, false, false, false, false, false, false, false, false, false]
abbrev c18_f0 (v0 v3 v4 : AV) : List AV := [v0, .undef, .undef, v3, v4, .undef, .undef, .undef, .undef, .undef, .undef, .undef, .undef, .undef, .undef, .undef, .undef, .undef, .undef, .undef, .undef, .undef, .undef, .undef, .undef, .undef, .undef, .undef, .undef, .undef, .undef, .undef, .undef, .undef, .undef, .undef, .undef, .undef, .undef, .undef, .undef, .undef, .undef, .undef, .undef, .undef, .undef, .undef, .undef, .undef, .undef]
def c18_b0 : ACode := (.seq (.seq (.reg [⟨(some 17), .op (.mov (.tmp 4)), none⟩,
   ⟨(some 18), .op (.mov (.tmp 3)), none⟩,
   ⟨(some 19), .op (.bin .lss (.tmp 17) (.tmp 18)), none⟩])
 (.cond (.tmp 19) .skip
 (.exit 2 [true, false, false, true, false, false, false, false, false, false, false, false, false, false, false, false, false, false, false, false, false, false, false, false, false, false, false, false, false, false, false, false, false, false, false, false, false, false, false, false, false, false, false, false, false, false, false, false, false, false, false])))
 (.seq (.block 3 (.seq (.dreg [⟨(some 22), .op (.mov (.tmp 0)), none⟩,
    ⟨(some 23), .op (.mov (.tmp 4)), none⟩,
    ⟨(some 24), .op (.iad 3 (.tmp 22) (.tmp 23)), none⟩,
    ⟨(some 25), .op (.fad 0 (.tmp 24)), none⟩,
    ⟨(some 26), .op (.ld none (.tmp 25)), none⟩,
    ⟨(some 27), .op (.mov (.tmp 0)), none⟩,
    ⟨(some 28), .op (.mov (.tmp 3)), none⟩,
    ⟨(some 29), .op (.iad 3 (.tmp 27) (.tmp 28)), none⟩,
    ⟨(some 30), .op (.fad 0 (.tmp 29)), none⟩,
    ⟨(some 31), .op (.ld none (.tmp 30)), none⟩,
    ⟨(some 32), .op (.bin .eql (.tmp 26) (.tmp 31)), none⟩,
    ⟨(some 33), .op (.mov (.tmp 32)), none⟩,
    ⟨(some 34), .op (.mov (.tmp 0)), (some (33, true))⟩,
    ⟨(some 35), .op (.mov (.tmp 4)), (some (33, true))⟩,
    ⟨(some 36), .op (.iad 3 (.tmp 34) (.tmp 35)), (some (33, true))⟩,
    ⟨(some 37), .op (.fad 1 (.tmp 36)), (some (33, true))⟩,
    ⟨(some 38), .op (.ld none (.tmp 37)), (some (33, true))⟩,
    ⟨(some 39), .call 32 [(.tmp 38)], (some (33, true))⟩,
    ⟨(some 40), .op (.mov (.tmp 0)), (some (33, true))⟩,
    ⟨(some 41), .op (.mov (.tmp 3)), (some (33, true))⟩,
    ⟨(some 42), .op (.iad 3 (.tmp 40) (.tmp 41)), (some (33, true))⟩,
    ⟨(some 43), .op (.fad 1 (.tmp 42)), (some (33, true))⟩,
    ⟨(some 44), .op (.ld none (.tmp 43)), (some (33, true))⟩,
    ⟨(some 45), .call 32 [(.tmp 44)], (some (33, true))⟩,
    ⟨(some 46), .op (.beq false (.tmp 39) (.tmp 45)), (some (33, true))⟩,
    ⟨(some 47), .op (.pick (.tmp 33) (.tmp 46) (.const (.bool false))), none⟩] [(22, 17)])
  (.cond (.tmp 47) (.seq (.reg [⟨(some 2), .op (.mov (.const (.bool false))), none⟩])
   (.ret [false, false, true, false, false, false, false, false, false, false, false, false, false, false, false, false, false, false, false, false, false, false, false, false, false, false, false, false, false, false, false, false, false, false, false, false, false, false, false, false, false, false, false, false, false, false, false, false, false, false, false]))
  .skip)))
 (.reg [⟨(some 20), .op (.mov (.tmp 4)), none⟩,
   ⟨(some 21), .op (.bin .add (.tmp 20) (.const (.int .i64 1))), none⟩,
   ⟨(some 4), .op (.mov (.tmp 21)), none⟩])))
def c18_m1 : List Bool := [true, false, false, true, false, false, false, false, false, false, false, false, false, false, false, false, false, false, false, false, false, false, false, false, false, false, false, false, false, false, false, false, false, false, false, false, false, false, false, false, false, false, false, false, false, false, false, false, false, false, false]
abbrev c18_f1 (v0 v3 : AV) : List AV := [v0, .undef, .undef, v3, .undef, .undef, .undef, .undef, .undef, .undef, .undef, .undef, .undef, .undef, .undef, .undef, .undef, .undef, .undef, .undef, .undef, .undef, .undef, .undef, .undef, .undef, .undef, .undef, .undef, .undef, .undef, .undef, .undef, .undef, .undef, .undef, .undef, .undef, .undef, .undef, .undef, .undef, .undef, .undef, .undef, .undef, .undef, .undef, .undef, .undef, .undef]
def c18_b1 : ACode := (.seq (.seq (.reg [⟨(some 5), .op (.mov (.tmp 3)), none⟩,
   ⟨(some 6), .op (.mov (.tmp 0)), none⟩,
   ⟨(some 7), .op (.lenv (.tmp 6)), none⟩,
   ⟨(some 8), .op (.bin .lss (.tmp 5) (.tmp 7)), none⟩])
 (.cond (.tmp 8) .skip
 (.exit 0 [true, false, false, false, false, false, false, false, false, false, false, false, false, false, false, false, false, false, false, false, false, false, false, false, false, false, false, false, false, false, false, false, false, false, false, false, false, false, false, false, false, false, false, false, false, false, false, false, false, false, false])))
 (.seq (.block 1 (.seq (.seq (.reg [⟨(some 11), .op (.mov (.tmp 0)), none⟩,
    ⟨(some 12), .op (.mov (.tmp 3)), none⟩,
    ⟨(some 13), .op (.iad 3 (.tmp 11) (.tmp 12)), none⟩,
    ⟨(some 14), .op (.ld (some 3) (.tmp 13)), none⟩,
    ⟨(some 15), .call 31 [(.tmp 14)], none⟩,
    ⟨(some 16), .op (.un .not (.tmp 15)), none⟩])
  (.cond (.tmp 16) (.seq (.reg [⟨(some 2), .op (.mov (.const (.bool false))), none⟩])
   (.ret [false, false, true, false, false, false, false, false, false, false, false, false, false, false, false, false, false, false, false, false, false, false, false, false, false, false, false, false, false, false, false, false, false, false, false, false, false, false, false, false, false, false, false, false, false, false, false, false, false, false, false]))
  .skip))
  (.seq (.reg [⟨(some 4), .op (.mov (.const (.int .i64 0))), none⟩])
  (.block 2 (.loop c18_m0 c18_b0)))))
 (.reg [⟨(some 9), .op (.mov (.tmp 3)), none⟩,
   ⟨(some 10), .op (.bin .add (.tmp 9) (.const (.int .i64 1))), none⟩,
   ⟨(some 3), .op (.mov (.tmp 10)), none⟩])))
def c18 : AFun := ⟨51, [.tmp 2], false, (.seq (.reg [⟨(some 2), .op (.mov (.const (.bool false))), none⟩])
 (.seq (.seq (.reg [⟨(some 3), .op (.mov (.const (.int .i64 0))), none⟩])
 (.block 0 (.loop c18_m1 c18_b1)))
 (.seq (.reg [⟨(some 48), .op (.mov (.tmp 0)), none⟩,
   ⟨(some 49), .op (.lenv (.tmp 48)), none⟩,
   ⟨(some 50), .op (.bin .leq (.tmp 49) (.const (.int .i64 128))), none⟩,
   ⟨(some 2), .op (.mov (.tmp 50)), none⟩])
 (.ret [false, false, true, false, false, false, false, false, false, false, false, false, false, false, false, false, false, false, false, false, false, false, false, false, false, false, false, false, false, false, false, false, false, false, false, false, false, false, false, false, false, false, false, false, false, false, false, false, false, false, false]))))⟩
theorem ok18 : FnOK Try.prog 18 c18 := ⟨Try.f18, _, Try.func18, by kernel_rfl, rfl, by kernel_rfl, by kernel_rfl, by kernel_rfl⟩

/-- sizar/sizarref1.Sides. -/
def c19 : AFun := ⟨37, [.tmp 2, .tmp 3], false, (.seq (.reg [⟨(some 1), .op (.box (.tmp 0)), none⟩,
   ⟨(some 2), .op (.mov (.const (.int .i64 0))), none⟩,
   ⟨(some 3), .op (.mov (.const (.int .i64 0))), none⟩])
 (.seq (.seq (.reg [⟨(some 4), .op (.fad 1 (.tmp 1)), none⟩,
   ⟨(some 5), .op (.ld none (.tmp 4)), none⟩])
 (.block 0 (.seq (.reg [⟨(some 7), .op (.bin .eql (.tmp 5) (.const (.str [120, 102, 120]))), none⟩,
    ⟨(some 6), .op (.mov (.tmp 7)), none⟩])
  (.cond (.tmp 6) (.seq (.reg [⟨(some 8), .op (.fad 2 (.tmp 1)), none⟩,
     ⟨(some 9), .op (.ld none (.tmp 8)), none⟩,
     ⟨(some 10), .op (.bin .sub (.tmp 9) (.const (.int .i64 1))), none⟩,
     ⟨(some 11), .op (.fad 2 (.tmp 1)), none⟩,
     ⟨(some 12), .op (.ld none (.tmp 11)), none⟩,
     ⟨(some 13), .op (.bin .sub (.tmp 12) (.const (.int .i64 1))), none⟩,
     ⟨(some 2), .op (.mov (.tmp 10)), none⟩,
     ⟨(some 3), .op (.mov (.tmp 13)), none⟩])
   (.ret [false, false, true, true, false, false, false, false, false, false, false, false, false, false, false, false, false, false, false, false, false, false, false, false, false, false, false, false, false, false, false, false, false, false, false, false, false]))
  (.seq (.reg [⟨(some 15), .op (.bin .eql (.tmp 5) (.const (.str [120, 102, 121]))), none⟩,
     ⟨(some 14), .op (.mov (.tmp 15)), none⟩])
   (.cond (.tmp 14) (.seq (.reg [⟨(some 16), .op (.fad 2 (.tmp 1)), none⟩,
      ⟨(some 17), .op (.ld none (.tmp 16)), none⟩,
      ⟨(some 18), .op (.bin .sub (.tmp 17) (.const (.int .i64 1))), none⟩,
      ⟨(some 19), .op (.fad 2 (.tmp 1)), none⟩,
      ⟨(some 20), .op (.ld none (.tmp 19)), none⟩,
      ⟨(some 2), .op (.mov (.tmp 18)), none⟩,
      ⟨(some 3), .op (.mov (.tmp 20)), none⟩])
    (.ret [false, false, true, true, false, false, false, false, false, false, false, false, false, false, false, false, false, false, false, false, false, false, false, false, false, false, false, false, false, false, false, false, false, false, false, false, false]))
   (.seq (.reg [⟨(some 22), .op (.bin .eql (.tmp 5) (.const (.str [121, 102, 120]))), none⟩,
      ⟨(some 21), .op (.mov (.tmp 22)), none⟩])
    (.cond (.tmp 21) (.seq (.reg [⟨(some 23), .op (.fad 2 (.tmp 1)), none⟩,
       ⟨(some 24), .op (.ld none (.tmp 23)), none⟩,
       ⟨(some 25), .op (.fad 2 (.tmp 1)), none⟩,
       ⟨(some 26), .op (.ld none (.tmp 25)), none⟩,
       ⟨(some 27), .op (.bin .sub (.tmp 26) (.const (.int .i64 1))), none⟩,
       ⟨(some 2), .op (.mov (.tmp 24)), none⟩,
       ⟨(some 3), .op (.mov (.tmp 27)), none⟩])
     (.ret [false, false, true, true, false, false, false, false, false, false, false, false, false, false, false, false, false, false, false, false, false, false, false, false, false, false, false, false, false, false, false, false, false, false, false, false, false]))
    (.seq (.reg [⟨(some 29), .op (.bin .eql (.tmp 5) (.const (.str [102, 121]))), none⟩,
       ⟨(some 28), .op (.mov (.tmp 29)), none⟩])
     (.cond (.tmp 28) (.seq (.reg [⟨(some 30), .op (.fad 2 (.tmp 1)), none⟩,
        ⟨(some 31), .op (.ld none (.tmp 30)), none⟩,
        ⟨(some 2), .op (.mov (.const (.int .i64 0))), none⟩,
        ⟨(some 3), .op (.mov (.tmp 31)), none⟩])
      (.ret [false, false, true, true, false, false, false, false, false, false, false, false, false, false, false, false, false, false, false, false, false, false, false, false, false, false, false, false, false, false, false, false, false, false, false, false, false]))
     (.seq (.reg [⟨(some 33), .op (.bin .eql (.tmp 5) (.const (.str [102, 120]))), none⟩,
        ⟨(some 32), .op (.mov (.tmp 33)), none⟩])
      (.cond (.tmp 32) (.seq (.reg [⟨(some 34), .op (.fad 2 (.tmp 1)), none⟩,
         ⟨(some 35), .op (.ld none (.tmp 34)), none⟩,
         ⟨(some 36), .op (.bin .sub (.tmp 35) (.const (.int .i64 1))), none⟩,
         ⟨(some 2), .op (.mov (.const (.int .i64 0))), none⟩,
         ⟨(some 3), .op (.mov (.tmp 36)), none⟩])
       (.ret [false, false, true, true, false, false, false, false, false, false, false, false, false, false, false, false, false, false, false, false, false, false, false, false, false, false, false, false, false, false, false, false, false, false, false, false, false]))
      .skip))))))))))))
 (.seq (.reg [⟨(some 2), .op (.mov (.const (.int .i64 0))), none⟩,
   ⟨(some 3), .op (.mov (.const (.int .i64 0))), none⟩])
 (.ret [false, false, true, true, false, false, false, false, false, false, false, false, false, false, false, false, false, false, false, false, false, false, false, false, false, false, false, false, false, false, false, false, false, false, false, false, false]))))⟩
theorem ok19 : FnOK Try.prog 19 c19 := ⟨Try.f19, _, Try.func19, by kernel_rfl, rfl, by kernel_rfl, by kernel_rfl, by kernel_rfl⟩

/-- sizar/sizarref1.Find. -/
def c20_m0 : List Bool := [true, true, true, false, false, false, false, true, false, false, false, false, false, false, false, false, false, false, false, false, false, false, false, false, false, false, false, false, false, false, false, false]
abbrev c20_f0 (v0 v1 v2 v7 : AV) : List AV := [v0, v1, v2, .undef, .undef, .undef, .undef, v7, .undef, .undef, .undef, .undef, .undef, .undef, .undef, .undef, .undef, .undef, .undef, .undef, .undef, .undef, .undef, .undef, .undef, .undef, .undef, .undef, .undef, .undef, .undef, .undef]
def c20_b0 : ACode := (.seq (.seq (.reg [⟨(some 8), .op (.mov (.tmp 7)), none⟩,
   ⟨(some 9), .op (.mov (.tmp 0)), none⟩,
   ⟨(some 10), .op (.lenv (.tmp 9)), none⟩,
   ⟨(some 11), .op (.bin .lss (.tmp 8) (.tmp 10)), none⟩])
 (.cond (.tmp 11) .skip
 (.exit 0 [false, false, false, false, false, false, false, false, false, false, false, false, false, false, false, false, false, false, false, false, false, false, false, false, false, false, false, false, false, false, false, false])))
 (.seq (.block 1 (.seq (.reg [⟨(some 14), .op (.mov (.tmp 0)), none⟩,
    ⟨(some 15), .op (.mov (.tmp 7)), none⟩,
    ⟨(some 16), .op (.iad 3 (.tmp 14) (.tmp 15)), none⟩,
    ⟨(some 17), .op (.fad 0 (.tmp 16)), none⟩,
    ⟨(some 18), .op (.ld none (.tmp 17)), none⟩,
    ⟨(some 19), .op (.mov (.tmp 1)), none⟩,
    ⟨(some 20), .op (.bin .eql (.tmp 18) (.tmp 19)), none⟩,
    ⟨(some 21), .op (.mov (.tmp 20)), none⟩,
    ⟨(some 22), .op (.mov (.tmp 0)), (some (21, true))⟩,
    ⟨(some 23), .op (.mov (.tmp 7)), (some (21, true))⟩,
    ⟨(some 24), .op (.iad 3 (.tmp 22) (.tmp 23)), (some (21, true))⟩,
    ⟨(some 25), .op (.fad 1 (.tmp 24)), (some (21, true))⟩,
    ⟨(some 26), .op (.ld none (.tmp 25)), (some (21, true))⟩,
    ⟨(some 27), .call 32 [(.tmp 26)], (some (21, true))⟩,
    ⟨(some 28), .op (.mov (.tmp 2)), (some (21, true))⟩,
    ⟨(some 29), .op (.beq false (.tmp 27) (.tmp 28)), (some (21, true))⟩,
    ⟨(some 30), .op (.pick (.tmp 21) (.tmp 29) (.const (.bool false))), none⟩])
  (.cond (.tmp 30) (.seq (.reg [⟨(some 31), .op (.mov (.tmp 7)), none⟩,
     ⟨(some 6), .op (.mov (.tmp 31)), none⟩])
   (.ret [false, false, false, false, false, false, true, false, false, false, false, false, false, false, false, false, false, false, false, false, false, false, false, false, false, false, false, false, false, false, false, false]))
  .skip)))
 (.reg [⟨(some 12), .op (.mov (.tmp 7)), none⟩,
   ⟨(some 13), .op (.bin .add (.tmp 12) (.const (.int .i64 1))), none⟩,
   ⟨(some 7), .op (.mov (.tmp 13)), none⟩])))
def c20 : AFun := ⟨32, [.tmp 6], false, (.seq (.reg [⟨(some 6), .op (.mov (.const (.int .i64 0))), none⟩])
 (.seq (.seq (.reg [⟨(some 7), .op (.mov (.const (.int .i64 0))), none⟩])
 (.block 0 (.loop c20_m0 c20_b0)))
 (.seq (.reg [⟨(some 6), .op (.mov (.const (.int .i64 (-1)))), none⟩])
 (.ret [false, false, false, false, false, false, true, false, false, false, false, false, false, false, false, false, false, false, false, false, false, false, false, false, false, false, false, false, false, false, false, false]))))⟩
theorem ok20 : FnOK Try.prog 20 c20 := ⟨Try.f20, _, Try.func20, by kernel_rfl, rfl, by kernel_rfl, by kernel_rfl, by kernel_rfl⟩

/-- sizar/op.Good$1. -/
def c21 : AFun := ⟨7, [.tmp 3], false, (.seq (.reg [⟨(some 2), .op (.box (.tmp 0)), none⟩,
   ⟨(some 3), .op (.mov (.const (.bool false))), none⟩])
 (.seq (.reg [⟨(some 4), .op (.ld (some 3) (.tmp 2)), none⟩,
   ⟨(some 5), .op (.ld (some 3) (.tmp 1)), none⟩,
   ⟨(some 6), .call 22 [(.tmp 4), (.tmp 5)], none⟩,
   ⟨(some 3), .op (.mov (.tmp 6)), none⟩])
 (.ret [false, false, false, true, false, false, false])))⟩
theorem ok21 : FnOK Try.prog 21 c21 := ⟨Try.f21, _, Try.func21, by kernel_rfl, rfl, by kernel_rfl, by kernel_rfl, by kernel_rfl⟩

/-- sizar/op.alike. -/
def c22 : AFun := ⟨17, [.tmp 4], false, (.seq (.reg [⟨(some 2), .op (.box (.tmp 0)), none⟩,
   ⟨(some 3), .op (.box (.tmp 1)), none⟩,
   ⟨(some 4), .op (.mov (.const (.bool false))), none⟩])
 (.seq (.dreg [⟨(some 5), .op (.fad 0 (.tmp 2)), none⟩,
   ⟨(some 6), .op (.ld none (.tmp 5)), none⟩,
   ⟨(some 7), .op (.fad 0 (.tmp 3)), none⟩,
   ⟨(some 8), .op (.ld none (.tmp 7)), none⟩,
   ⟨(some 9), .op (.bin .eql (.tmp 6) (.tmp 8)), none⟩,
   ⟨(some 10), .op (.mov (.tmp 9)), none⟩,
   ⟨(some 11), .op (.ld (some 3) (.tmp 2)), (some (10, true))⟩,
   ⟨(some 12), .call 33 [(.tmp 11)], (some (10, true))⟩,
   ⟨(some 13), .op (.ld (some 3) (.tmp 3)), (some (10, true))⟩,
   ⟨(some 14), .call 33 [(.tmp 13)], (some (10, true))⟩,
   ⟨(some 15), .op (.beq false (.tmp 12) (.tmp 14)), (some (10, true))⟩,
   ⟨(some 16), .op (.pick (.tmp 10) (.tmp 15) (.const (.bool false))), none⟩,
   ⟨(some 4), .op (.mov (.tmp 16)), none⟩] [(8, 7)])
 (.ret [false, false, false, false, true, false, false, false, false, false, false, false, false, false, false, false, false])))⟩
theorem ok22 : FnOK Try.prog 22 c22 := ⟨Try.f22, _, Try.func22, by kernel_rfl, rfl, by kernel_rfl, by kernel_rfl, by kernel_rfl⟩

/-- (sizar/op.Op).may. -/
def c23 : AFun := ⟨45, [.tmp 2], false, (.seq (.reg [⟨(some 1), .op (.box (.tmp 0)), none⟩,
   ⟨(some 2), .op (.mov (.const (.bool false))), none⟩])
 (.seq (.seq (.reg [⟨(some 3), .op (.fad 0 (.tmp 1)), none⟩,
   ⟨(some 4), .op (.ld none (.tmp 3)), none⟩,
   ⟨(some 5), .op (.bin .eql (.tmp 4) (.const (.str [44]))), none⟩])
 (.cond (.tmp 5) (.seq (.reg [⟨(some 6), .op (.fad 1 (.tmp 1)), none⟩,
    ⟨(some 7), .op (.ld none (.tmp 6)), none⟩,
    ⟨(some 8), .op (.bin .eql (.tmp 7) (.const (.str [120, 102, 121]))), none⟩,
    ⟨(some 9), .op (.mov (.tmp 8)), none⟩,
    ⟨(some 10), .op (.fad 2 (.tmp 1)), (some (9, true))⟩,
    ⟨(some 11), .op (.ld none (.tmp 10)), (some (9, true))⟩,
    ⟨(some 12), .op (.bin .eql (.tmp 11) (.const (.int .i64 1000))), (some (9, true))⟩,
    ⟨(some 13), .op (.pick (.tmp 9) (.tmp 12) (.const (.bool false))), none⟩,
    ⟨(some 2), .op (.mov (.tmp 13)), none⟩])
  (.ret [false, false, true, false, false, false, false, false, false, false, false, false, false, false, false, false, false, false, false, false, false, false, false, false, false, false, false, false, false, false, false, false, false, false, false, false, false, false, false, false, false, false, false, false, false]))
 .skip))
 (.seq (.seq (.reg [⟨(some 14), .op (.fad 0 (.tmp 1)), none⟩,
   ⟨(some 15), .op (.ld none (.tmp 14)), none⟩,
   ⟨(some 16), .op (.bin .eql (.tmp 15) (.const (.str []))), none⟩,
   ⟨(some 17), .op (.mov (.tmp 16)), none⟩,
   ⟨(some 18), .op (.fad 0 (.tmp 1)), (some (17, false))⟩,
   ⟨(some 19), .op (.ld none (.tmp 18)), (some (17, false))⟩,
   ⟨(some 20), .op (.lens (.tmp 19)), (some (17, false))⟩,
   ⟨(some 21), .op (.bin .gtr (.tmp 20) (.const (.int .i64 64))), (some (17, false))⟩,
   ⟨(some 22), .op (.pick (.tmp 17) (.const (.bool true)) (.tmp 21)), none⟩,
   ⟨(some 23), .op (.mov (.tmp 22)), none⟩,
   ⟨(some 24), .op (.bsl 1 3 [(.str []), (.str []), (.str [])] [(0, (.const (.str [124]))), (1, (.const (.str [91, 93]))), (2, (.const (.str [123, 125])))]), (some (23, false))⟩,
   ⟨(some 25), .op (.fad 0 (.tmp 1)), (some (23, false))⟩,
   ⟨(some 26), .op (.ld none (.tmp 25)), (some (23, false))⟩,
   ⟨(some 27), .call 34 [(.tmp 24), (.tmp 26)], (some (23, false))⟩,
   ⟨(some 28), .op (.pick (.tmp 23) (.const (.bool true)) (.tmp 27)), none⟩])
 (.cond (.tmp 28) (.seq (.reg [⟨(some 2), .op (.mov (.const (.bool false))), none⟩])
  (.ret [false, false, true, false, false, false, false, false, false, false, false, false, false, false, false, false, false, false, false, false, false, false, false, false, false, false, false, false, false, false, false, false, false, false, false, false, false, false, false, false, false, false, false, false, false]))
 .skip))
 (.seq (.reg [⟨(some 29), .op (.ld (some 3) (.tmp 1)), none⟩,
   ⟨(some 30), .call 35 [(.tmp 29)], none⟩,
   ⟨(some 31), .op (.mov (.tmp 30)), none⟩,
   ⟨(some 32), .op (.ld (some 3) (.tmp 1)), (some (31, false))⟩,
   ⟨(some 33), .call 33 [(.tmp 32)], (some (31, false))⟩,
   ⟨(some 34), .op (.pick (.tmp 31) (.const (.bool true)) (.tmp 33)), none⟩,
   ⟨(some 35), .op (.mov (.tmp 34)), none⟩,
   ⟨(some 36), .op (.fad 2 (.tmp 1)), (some (35, true))⟩,
   ⟨(some 37), .op (.ld none (.tmp 36)), (some (35, true))⟩,
   ⟨(some 38), .op (.bin .geq (.tmp 37) (.const (.int .i64 1))), (some (35, true))⟩,
   ⟨(some 39), .op (.pick (.tmp 35) (.tmp 38) (.const (.bool false))), none⟩,
   ⟨(some 40), .op (.mov (.tmp 39)), none⟩,
   ⟨(some 41), .op (.fad 2 (.tmp 1)), (some (40, true))⟩,
   ⟨(some 42), .op (.ld none (.tmp 41)), (some (40, true))⟩,
   ⟨(some 43), .op (.bin .leq (.tmp 42) (.const (.int .i64 1200))), (some (40, true))⟩,
   ⟨(some 44), .op (.pick (.tmp 40) (.tmp 43) (.const (.bool false))), none⟩,
   ⟨(some 2), .op (.mov (.tmp 44)), none⟩])
 (.ret [false, false, true, false, false, false, false, false, false, false, false, false, false, false, false, false, false, false, false, false, false, false, false, false, false, false, false, false, false, false, false, false, false, false, false, false, false, false, false, false, false, false, false, false, false])))))⟩
theorem ok23 : FnOK Try.prog 23 c23 := ⟨Try.f23, _, Try.func23, by kernel_rfl, rfl, by kernel_rfl, by kernel_rfl, by kernel_rfl⟩

/-- slices.ContainsFunc[[]sizar/op.Op,sizar/op.Op]. -/
def c24 : AFun := ⟨9, [.tmp 4], false, (.seq (.reg [⟨(some 4), .op (.mov (.const (.bool false))), none⟩])
 (.seq (.reg [⟨(some 5), .op (.mov (.tmp 0)), none⟩,
   ⟨(some 6), .op (.mov (.tmp 1)), none⟩,
   ⟨(some 7), .call 28 [(.tmp 5), (.tmp 6)], none⟩,
   ⟨(some 8), .op (.bin .geq (.tmp 7) (.const (.int .i64 0))), none⟩,
   ⟨(some 4), .op (.mov (.tmp 8)), none⟩])
 (.ret [false, false, false, false, true, false, false, false, false])))⟩
theorem ok24 : FnOK Try.prog 24 c24 := ⟨Try.f24, _, Try.func24, by kernel_rfl, rfl, by kernel_rfl, by kernel_rfl, by kernel_rfl⟩

/-- sizar/op.find. -/
def c25 : AFun := ⟨26, [.cell 6 (some 3), .tmp 7], false, (.seq (.reg [⟨(some 3), .op (.box (.tmp 0)), none⟩,
   ⟨(some 4), .op (.box (.tmp 1)), none⟩,
   ⟨(some 5), .op (.box (.tmp 2)), none⟩,
   ⟨(some 6), .op (.box (.const (.agg [(.str []), (.str []), (.int .i64 0)]))), none⟩,
   ⟨(some 7), .op (.mov (.const (.bool false))), none⟩])
 (.seq (.reg [⟨(some 9), .op (.fad 0 (.tmp 3)), none⟩,
   ⟨(some 10), .op (.ld none (.tmp 9)), none⟩,
   ⟨(some 11), .op (.mkf 36 [(.tmp 4), (.tmp 5)]), none⟩,
   ⟨(some 12), .call 28 [(.tmp 10), (.tmp 11)], none⟩,
   ⟨(some 8), .op (.mov (.tmp 12)), none⟩])
 (.seq (.seq (.reg [⟨(some 13), .op (.mov (.tmp 8)), none⟩,
   ⟨(some 14), .op (.bin .lss (.tmp 13) (.const (.int .i64 0))), none⟩,
   ⟨(some 15), .op (.mov (.tmp 14)), none⟩,
   ⟨(some 16), .op (.ld (some 1) (.tmp 3)), (some (15, false))⟩,
   ⟨(some 17), .call 8 [(.tmp 16)], (some (15, false))⟩,
   ⟨(some 18), .op (.un .not (.tmp 17)), (some (15, false))⟩,
   ⟨(some 19), .op (.pick (.tmp 15) (.const (.bool true)) (.tmp 18)), none⟩])
 (.cond (.tmp 19) (.seq (.reg [⟨(some 20), .op (.bld [(.str []), (.str []), (.int .i64 0)] []), none⟩,
    ⟨none, .op (.st 3 (.tmp 6) (.tmp 20)), none⟩,
    ⟨(some 7), .op (.mov (.const (.bool false))), none⟩])
  (.ret [false, false, false, false, false, false, true, true, false, false, false, false, false, false, false, false, false, false, false, false, false, false, false, false, false, false]))
 .skip))
 (.seq (.reg [⟨(some 21), .op (.fad 0 (.tmp 3)), none⟩,
   ⟨(some 22), .op (.ld none (.tmp 21)), none⟩,
   ⟨(some 23), .op (.mov (.tmp 8)), none⟩,
   ⟨(some 24), .op (.iad 3 (.tmp 22) (.tmp 23)), none⟩,
   ⟨(some 25), .op (.ld (some 3) (.tmp 24)), none⟩,
   ⟨none, .op (.st 3 (.tmp 6) (.tmp 25)), none⟩,
   ⟨(some 7), .op (.mov (.const (.bool true))), none⟩])
 (.ret [false, false, false, false, false, false, true, true, false, false, false, false, false, false, false, false, false, false, false, false, false, false, false, false, false, false])))))⟩
theorem ok25 : FnOK Try.prog 25 c25 := ⟨Try.f25, _, Try.func25, by kernel_rfl, rfl, by kernel_rfl, by kernel_rfl, by kernel_rfl⟩

/-- sizar/op.Plain$1. -/
def c26_m0 : List Bool := [true, true, false, true, false, false, false, false, false, true, true, true, false, false, false, false, false, false, false, false, false, false, false, false, false]
abbrev c26_f0 (v0 v1 v3 v9 v10 v11 : AV) : List AV := [v0, v1, .undef, v3, .undef, .undef, .undef, .undef, .undef, v9, v10, v11, .undef, .undef, .undef, .undef, .undef, .undef, .undef, .undef, .undef, .undef, .undef, .undef, .undef]
def c26_b0 : ACode := (.seq (.reg [⟨(some 12), .op (.bin .lss (.tmp 11) (.tmp 10)), none⟩])
 (.seq (.cond (.tmp 12) .skip
 (.exit 0 [false, false, false, false, false, false, false, false, false, false, false, false, false, false, false, false, false, false, false, false, false, false, false, false, false]))
 (.seq (.block 1 (.seq (.reg [⟨(some 13), .op (.iad 1 (.tmp 9) (.tmp 11)), none⟩,
    ⟨(some 14), .op (.ld none (.tmp 13)), none⟩,
    ⟨(some 8), .op (.mov (.tmp 14)), none⟩])
  (.reg [⟨(some 15), .op (.fad 0 (.tmp 3)), none⟩,
    ⟨(some 16), .op (.ld none (.tmp 15)), none⟩,
    ⟨(some 17), .op (.mov (.tmp 8)), none⟩,
    ⟨(some 18), .op (.mov (.tmp 0)), none⟩,
    ⟨(some 19), .op (.mov (.tmp 1)), none⟩,
    ⟨(some 20), .op (.bld [(.str []), (.str []), (.int .i64 0)] [(0, 1, (.tmp 17)), (1, 1, (.tmp 18)), (2, 1, (.tmp 19))]), none⟩,
    ⟨(some 21), .op (.bsl 3 1 [(.str []), (.str []), (.int .i64 0)] [(0, (.tmp 20))]), none⟩,
    ⟨(some 22), .op (.app 3 40 (.tmp 16) (.tmp 21)), none⟩,
    ⟨(some 23), .op (.fad 0 (.tmp 3)), none⟩,
    ⟨none, .op (.st 1 (.tmp 23) (.tmp 22)), none⟩])))
 (.reg [⟨(some 24), .op (.bin .add (.tmp 11) (.const (.int .i64 1))), none⟩,
   ⟨(some 11), .op (.mov (.tmp 24)), none⟩]))))
def c26 : AFun := ⟨25, [], false, (.seq (.reg [⟨(some 9), .op (.mov (.tmp 2)), none⟩,
   ⟨(some 10), .op (.lenv (.tmp 9)), none⟩,
   ⟨(some 11), .op (.mov (.const (.int .i64 0))), none⟩])
 (.block 0 (.loop c26_m0 c26_b0)))⟩
theorem ok26 : FnOK Try.prog 26 c26 := ⟨Try.f26, _, Try.func26, by kernel_rfl, rfl, by kernel_rfl, by kernel_rfl, by kernel_rfl⟩

/-- slices.Clone[[]sizar/op.Op,sizar/op.Op]. -/
def c27 : AFun := ⟨8, [.tmp 2], true, (.seq (.reg [⟨(some 2), .op (.mov (.const .nils)), none⟩])
 (.seq (.seq (.reg [⟨(some 3), .op (.mov (.tmp 0)), none⟩,
   ⟨(some 4), .op (.snil false (.tmp 3)), none⟩])
 (.cond (.tmp 4) (.seq (.reg [⟨(some 2), .op (.mov (.const .nils)), none⟩])
  (.ret [false, false, true, false, false, false, false, false]))
 .skip))
 (.seq (.reg [⟨(some 5), .op (.bs0), none⟩,
   ⟨(some 6), .op (.mov (.tmp 0)), none⟩,
   ⟨(some 7), .op (.app 3 40 (.tmp 5) (.tmp 6)), none⟩,
   ⟨(some 2), .op (.mov (.tmp 7)), none⟩])
 (.ret [false, false, true, false, false, false, false, false]))))⟩
theorem ok27 : FnOK Try.prog 27 c27 := ⟨Try.f27, _, Try.func27, by kernel_rfl, rfl, by kernel_rfl, by kernel_rfl, by kernel_rfl⟩

theorem clone27 : CloneAt Try.prog 27 := ⟨⟨Try.f27, _, _, _, _, _, _, _, 30, _, (.reg [⟨(some 2), .op (.mov (.const .nils)), none⟩]),
 (.seq (.reg [⟨(some 2), .op (.mov (.const .nils)), none⟩])
 (.ret [])),
 (.seq (.reg [⟨(some 5), .op (.bs0), none⟩,
   ⟨(some 6), .op (.mov (.tmp 0)), none⟩,
   ⟨(some 7), .op (.app 3 40 (.tmp 5) (.tmp 6)), none⟩,
   ⟨(some 2), .op (.mov (.tmp 7)), none⟩])
 (.ret [])),
 Try.func27, by kernel_rfl, rfl, by kernel_rfl, by kernel_rfl, by kernel_rfl, rfl, by kernel_rfl, by kernel_rfl, by kernel_rfl, by kernel_rfl, by kernel_rfl, by kernel_rfl, fun _ _ => rfl, fun _ _ => rfl, fun _ hv _ => by rcases hv with rfl | rfl <;> rfl⟩⟩

/-- slices.IndexFunc[[]sizar/op.Op,sizar/op.Op]. -/
def c28_m0 : List Bool := [true, true, false, false, false, false, false, true, true, false, false, false, false, false, false, false, false, false, false]
abbrev c28_f0 (v0 v1 v7 v8 : AV) : List AV := [v0, v1, .undef, .undef, .undef, .undef, .undef, v7, v8, .undef, .undef, .undef, .undef, .undef, .undef, .undef, .undef, .undef, .undef]
def c28_b0 : ACode := (.seq (.reg [⟨(some 9), .op (.bin .lss (.tmp 8) (.tmp 7)), none⟩])
 (.seq (.cond (.tmp 9) .skip
 (.exit 0 [false, false, false, false, false, false, false, false, false, false, false, false, false, false, false, false, false, false, false]))
 (.seq (.block 1 (.seq (.reg [⟨(some 10), .op (.mov (.tmp 8)), none⟩,
    ⟨(some 5), .op (.mov (.tmp 10)), none⟩])
  (.seq (.reg [⟨(some 11), .op (.mov (.tmp 1)), none⟩,
    ⟨(some 12), .op (.mov (.tmp 0)), none⟩,
    ⟨(some 13), .op (.mov (.tmp 5)), none⟩,
    ⟨(some 14), .op (.iad 3 (.tmp 12) (.tmp 13)), none⟩,
    ⟨(some 15), .op (.ld (some 3) (.tmp 14)), none⟩,
    ⟨(some 16), .callv (.tmp 11) [(.tmp 15)], none⟩])
  (.cond (.tmp 16) (.seq (.reg [⟨(some 17), .op (.mov (.tmp 5)), none⟩,
     ⟨(some 4), .op (.mov (.tmp 17)), none⟩])
   (.ret [false, false, false, false, true, false, false, false, false, false, false, false, false, false, false, false, false, false, false]))
  .skip))))
 (.reg [⟨(some 18), .op (.bin .add (.tmp 8) (.const (.int .i64 1))), none⟩,
   ⟨(some 8), .op (.mov (.tmp 18)), none⟩]))))
def c28 : AFun := ⟨19, [.tmp 4], false, (.seq (.reg [⟨(some 4), .op (.mov (.const (.int .i64 0))), none⟩])
 (.seq (.seq (.reg [⟨(some 6), .op (.mov (.tmp 0)), none⟩,
   ⟨(some 7), .op (.lenv (.tmp 6)), none⟩,
   ⟨(some 8), .op (.mov (.const (.int .i64 0))), none⟩])
 (.block 0 (.loop c28_m0 c28_b0)))
 (.seq (.reg [⟨(some 4), .op (.mov (.const (.int .i64 (-1)))), none⟩])
 (.ret [false, false, false, false, true, false, false, false, false, false, false, false, false, false, false, false, false, false, false]))))⟩
theorem ok28 : FnOK Try.prog 28 c28 := ⟨Try.f28, _, Try.func28, by kernel_rfl, rfl, by kernel_rfl, by kernel_rfl, by kernel_rfl⟩

/-- sizar/op.Add$1. -/
def c29 : AFun := ⟨7, [.tmp 3], false, (.seq (.reg [⟨(some 2), .op (.box (.tmp 0)), none⟩,
   ⟨(some 3), .op (.mov (.const (.bool false))), none⟩])
 (.seq (.reg [⟨(some 4), .op (.ld (some 3) (.tmp 2)), none⟩,
   ⟨(some 5), .op (.ld (some 3) (.tmp 1)), none⟩,
   ⟨(some 6), .call 22 [(.tmp 4), (.tmp 5)], none⟩,
   ⟨(some 3), .op (.mov (.tmp 6)), none⟩])
 (.ret [false, false, false, true, false, false, false])))⟩
theorem ok29 : FnOK Try.prog 29 c29 := ⟨Try.f29, _, Try.func29, by kernel_rfl, rfl, by kernel_rfl, by kernel_rfl, by kernel_rfl⟩

/-- slices.Delete[[]sizar/op.Op,sizar/op.Op]. -/
def c30 : AFun := ⟨33, [.tmp 6], false, (.seq (.reg [⟨(some 6), .op (.mov (.const .nils)), none⟩])
 (.seq (.reg [⟨(some 8), .op (.mov (.tmp 0)), none⟩,
   ⟨(some 9), .op (.mov (.tmp 1)), none⟩,
   ⟨(some 10), .op (.mov (.tmp 2)), none⟩,
   ⟨(some 11), .op (.mov (.tmp 0)), none⟩,
   ⟨(some 12), .op (.lenv (.tmp 11)), none⟩,
   ⟨(some 13), .op (.slv 3 (.tmp 8) (some (.tmp 9)) (some (.tmp 10)) (some (.tmp 12))), none⟩])
 (.seq (.seq (.reg [⟨(some 14), .op (.mov (.tmp 1)), none⟩,
   ⟨(some 15), .op (.mov (.tmp 2)), none⟩,
   ⟨(some 16), .op (.bin .eql (.tmp 14) (.tmp 15)), none⟩])
 (.cond (.tmp 16) (.seq (.reg [⟨(some 17), .op (.mov (.tmp 0)), none⟩,
    ⟨(some 6), .op (.mov (.tmp 17)), none⟩])
  (.ret [false, false, false, false, false, false, true, false, false, false, false, false, false, false, false, false, false, false, false, false, false, false, false, false, false, false, false, false, false, false, false, false, false]))
 .skip))
 (.seq (.reg [⟨(some 18), .op (.mov (.tmp 0)), none⟩,
   ⟨(some 19), .op (.lenv (.tmp 18)), none⟩,
   ⟨(some 7), .op (.mov (.tmp 19)), none⟩])
 (.seq (.reg [⟨(some 20), .op (.mov (.tmp 0)), none⟩,
   ⟨(some 21), .op (.mov (.tmp 1)), none⟩,
   ⟨(some 22), .op (.slv 3 (.tmp 20) none (some (.tmp 21)) none), none⟩,
   ⟨(some 23), .op (.mov (.tmp 0)), none⟩,
   ⟨(some 24), .op (.mov (.tmp 2)), none⟩,
   ⟨(some 25), .op (.slv 3 (.tmp 23) (some (.tmp 24)) none none), none⟩,
   ⟨(some 26), .op (.app 3 40 (.tmp 22) (.tmp 25)), none⟩,
   ⟨(some 0), .op (.mov (.tmp 26)), none⟩])
 (.seq (.reg [⟨(some 27), .op (.mov (.tmp 0)), none⟩,
   ⟨(some 28), .op (.mov (.tmp 0)), none⟩,
   ⟨(some 29), .op (.lenv (.tmp 28)), none⟩,
   ⟨(some 30), .op (.mov (.tmp 7)), none⟩,
   ⟨(some 31), .op (.slv 3 (.tmp 27) (some (.tmp 29)) (some (.tmp 30)) none), none⟩,
   ⟨none, .op (.clr [(.str []), (.str []), (.int .i64 0)] (.tmp 31)), none⟩])
 (.seq (.reg [⟨(some 32), .op (.mov (.tmp 0)), none⟩,
   ⟨(some 6), .op (.mov (.tmp 32)), none⟩])
 (.ret [false, false, false, false, false, false, true, false, false, false, false, false, false, false, false, false, false, false, false, false, false, false, false, false, false, false, false, false, false, false, false, false, false]))))))))⟩
theorem ok30 : FnOK Try.prog 30 c30 := ⟨Try.f30, _, Try.func30, by kernel_rfl, rfl, by kernel_rfl, by kernel_rfl, by kernel_rfl⟩

/-- sizar/sizarref1.GoodOp. -/
def c31 : AFun := ⟨56, [.tmp 2], false, (.seq (.reg [⟨(some 1), .op (.box (.tmp 0)), none⟩,
   ⟨(some 2), .op (.mov (.const (.bool false))), none⟩])
 (.seq (.seq (.reg [⟨(some 3), .op (.fad 0 (.tmp 1)), none⟩,
   ⟨(some 4), .op (.ld none (.tmp 3)), none⟩,
   ⟨(some 5), .op (.bin .eql (.tmp 4) (.const (.str []))), none⟩,
   ⟨(some 6), .op (.mov (.tmp 5)), none⟩,
   ⟨(some 7), .op (.fad 0 (.tmp 1)), (some (6, false))⟩,
   ⟨(some 8), .op (.ld none (.tmp 7)), (some (6, false))⟩,
   ⟨(some 9), .op (.lens (.tmp 8)), (some (6, false))⟩,
   ⟨(some 10), .op (.bin .gtr (.tmp 9) (.const (.int .i64 64))), (some (6, false))⟩,
   ⟨(some 11), .op (.pick (.tmp 6) (.const (.bool true)) (.tmp 10)), none⟩,
   ⟨(some 12), .op (.mov (.tmp 11)), none⟩,
   ⟨(some 13), .op (.fad 0 (.tmp 1)), (some (12, false))⟩,
   ⟨(some 14), .op (.ld none (.tmp 13)), (some (12, false))⟩,
   ⟨(some 15), .op (.bin .eql (.tmp 14) (.const (.str [124]))), (some (12, false))⟩,
   ⟨(some 16), .op (.pick (.tmp 12) (.const (.bool true)) (.tmp 15)), none⟩,
   ⟨(some 17), .op (.mov (.tmp 16)), none⟩,
   ⟨(some 18), .op (.fad 0 (.tmp 1)), (some (17, false))⟩,
   ⟨(some 19), .op (.ld none (.tmp 18)), (some (17, false))⟩,
   ⟨(some 20), .op (.bin .eql (.tmp 19) (.const (.str [91, 93]))), (some (17, false))⟩,
   ⟨(some 21), .op (.pick (.tmp 17) (.const (.bool true)) (.tmp 20)), none⟩,
   ⟨(some 22), .op (.mov (.tmp 21)), none⟩,
   ⟨(some 23), .op (.fad 0 (.tmp 1)), (some (22, false))⟩,
   ⟨(some 24), .op (.ld none (.tmp 23)), (some (22, false))⟩,
   ⟨(some 25), .op (.bin .eql (.tmp 24) (.const (.str [123, 125]))), (some (22, false))⟩,
   ⟨(some 26), .op (.pick (.tmp 22) (.const (.bool true)) (.tmp 25)), none⟩,
   ⟨(some 27), .op (.mov (.tmp 26)), none⟩,
   ⟨(some 28), .op (.fad 2 (.tmp 1)), (some (27, false))⟩,
   ⟨(some 29), .op (.ld none (.tmp 28)), (some (27, false))⟩,
   ⟨(some 30), .op (.bin .lss (.tmp 29) (.const (.int .i64 1))), (some (27, false))⟩,
   ⟨(some 31), .op (.pick (.tmp 27) (.const (.bool true)) (.tmp 30)), none⟩,
   ⟨(some 32), .op (.mov (.tmp 31)), none⟩,
   ⟨(some 33), .op (.fad 2 (.tmp 1)), (some (32, false))⟩,
   ⟨(some 34), .op (.ld none (.tmp 33)), (some (32, false))⟩,
   ⟨(some 35), .op (.bin .gtr (.tmp 34) (.const (.int .i64 1200))), (some (32, false))⟩,
   ⟨(some 36), .op (.pick (.tmp 32) (.const (.bool true)) (.tmp 35)), none⟩])
 (.cond (.tmp 36) (.seq (.reg [⟨(some 2), .op (.mov (.const (.bool false))), none⟩])
  (.ret [false, false, true, false, false, false, false, false, false, false, false, false, false, false, false, false, false, false, false, false, false, false, false, false, false, false, false, false, false, false, false, false, false, false, false, false, false, false, false, false, false, false, false, false, false, false, false, false, false, false, false, false, false, false, false, false]))
 .skip))
 (.seq (.seq (.reg [⟨(some 37), .op (.fad 0 (.tmp 1)), none⟩,
   ⟨(some 38), .op (.ld none (.tmp 37)), none⟩,
   ⟨(some 39), .op (.bin .eql (.tmp 38) (.const (.str [44]))), none⟩])
 (.cond (.tmp 39) (.seq (.reg [⟨(some 40), .op (.fad 1 (.tmp 1)), none⟩,
    ⟨(some 41), .op (.ld none (.tmp 40)), none⟩,
    ⟨(some 42), .op (.bin .eql (.tmp 41) (.const (.str [120, 102, 121]))), none⟩,
    ⟨(some 43), .op (.mov (.tmp 42)), none⟩,
    ⟨(some 44), .op (.fad 2 (.tmp 1)), (some (43, true))⟩,
    ⟨(some 45), .op (.ld none (.tmp 44)), (some (43, true))⟩,
    ⟨(some 46), .op (.bin .eql (.tmp 45) (.const (.int .i64 1000))), (some (43, true))⟩,
    ⟨(some 47), .op (.pick (.tmp 43) (.tmp 46) (.const (.bool false))), none⟩,
    ⟨(some 2), .op (.mov (.tmp 47)), none⟩])
  (.ret [false, false, true, false, false, false, false, false, false, false, false, false, false, false, false, false, false, false, false, false, false, false, false, false, false, false, false, false, false, false, false, false, false, false, false, false, false, false, false, false, false, false, false, false, false, false, false, false, false, false, false, false, false, false, false, false]))
 .skip))
 (.seq (.reg [⟨(some 48), .op (.fad 1 (.tmp 1)), none⟩,
   ⟨(some 49), .op (.ld none (.tmp 48)), none⟩,
   ⟨(some 50), .call 32 [(.tmp 49)], none⟩,
   ⟨(some 51), .op (.mov (.tmp 50)), none⟩,
   ⟨(some 52), .op (.fad 1 (.tmp 1)), (some (51, false))⟩,
   ⟨(some 53), .op (.ld none (.tmp 52)), (some (51, false))⟩,
   ⟨(some 54), .call 37 [(.tmp 53)], (some (51, false))⟩,
   ⟨(some 55), .op (.pick (.tmp 51) (.const (.bool true)) (.tmp 54)), none⟩,
   ⟨(some 2), .op (.mov (.tmp 55)), none⟩])
 (.ret [false, false, true, false, false, false, false, false, false, false, false, false, false, false, false, false, false, false, false, false, false, false, false, false, false, false, false, false, false, false, false, false, false, false, false, false, false, false, false, false, false, false, false, false, false, false, false, false, false, false, false, false, false, false, false, false])))))⟩
theorem ok31 : FnOK Try.prog 31 c31 := ⟨Try.f31, _, Try.func31, by kernel_rfl, rfl, by kernel_rfl, by kernel_rfl, by kernel_rfl⟩

/-- sizar/sizarref1.Between. -/
def c32 : AFun := ⟨13, [.tmp 2], false, (.seq (.reg [⟨(some 2), .op (.mov (.const (.bool false))), none⟩])
 (.seq (.reg [⟨(some 3), .op (.mov (.tmp 0)), none⟩,
   ⟨(some 4), .op (.bin .eql (.tmp 3) (.const (.str [120, 102, 120]))), none⟩,
   ⟨(some 5), .op (.mov (.tmp 4)), none⟩,
   ⟨(some 6), .op (.mov (.tmp 0)), (some (5, false))⟩,
   ⟨(some 7), .op (.bin .eql (.tmp 6) (.const (.str [120, 102, 121]))), (some (5, false))⟩,
   ⟨(some 8), .op (.pick (.tmp 5) (.const (.bool true)) (.tmp 7)), none⟩,
   ⟨(some 9), .op (.mov (.tmp 8)), none⟩,
   ⟨(some 10), .op (.mov (.tmp 0)), (some (9, false))⟩,
   ⟨(some 11), .op (.bin .eql (.tmp 10) (.const (.str [121, 102, 120]))), (some (9, false))⟩,
   ⟨(some 12), .op (.pick (.tmp 9) (.const (.bool true)) (.tmp 11)), none⟩,
   ⟨(some 2), .op (.mov (.tmp 12)), none⟩])
 (.ret [false, false, true, false, false, false, false, false, false, false, false, false, false])))⟩
theorem ok32 : FnOK Try.prog 32 c32 := ⟨Try.f32, _, Try.func32, by kernel_rfl, rfl, by kernel_rfl, by kernel_rfl, by kernel_rfl⟩

/-- (sizar/op.Op).ahead. -/
def c33 : AFun := ⟨11, [.tmp 2], false, (.seq (.reg [⟨(some 1), .op (.box (.tmp 0)), none⟩,
   ⟨(some 2), .op (.mov (.const (.bool false))), none⟩])
 (.seq (.reg [⟨(some 3), .op (.fad 1 (.tmp 1)), none⟩,
   ⟨(some 4), .op (.ld none (.tmp 3)), none⟩,
   ⟨(some 5), .op (.bin .eql (.tmp 4) (.const (.str [102, 121]))), none⟩,
   ⟨(some 6), .op (.mov (.tmp 5)), none⟩,
   ⟨(some 7), .op (.fad 1 (.tmp 1)), (some (6, false))⟩,
   ⟨(some 8), .op (.ld none (.tmp 7)), (some (6, false))⟩,
   ⟨(some 9), .op (.bin .eql (.tmp 8) (.const (.str [102, 120]))), (some (6, false))⟩,
   ⟨(some 10), .op (.pick (.tmp 6) (.const (.bool true)) (.tmp 9)), none⟩,
   ⟨(some 2), .op (.mov (.tmp 10)), none⟩])
 (.ret [false, false, true, false, false, false, false, false, false, false, false])))⟩
theorem ok33 : FnOK Try.prog 33 c33 := ⟨Try.f33, _, Try.func33, by kernel_rfl, rfl, by kernel_rfl, by kernel_rfl, by kernel_rfl⟩

/-- slices.Contains[[]string,string]. -/
def c34 : AFun := ⟨9, [.tmp 4], false, (.seq (.reg [⟨(some 4), .op (.mov (.const (.bool false))), none⟩])
 (.seq (.reg [⟨(some 5), .op (.mov (.tmp 0)), none⟩,
   ⟨(some 6), .op (.mov (.tmp 1)), none⟩,
   ⟨(some 7), .call 38 [(.tmp 5), (.tmp 6)], none⟩,
   ⟨(some 8), .op (.bin .geq (.tmp 7) (.const (.int .i64 0))), none⟩,
   ⟨(some 4), .op (.mov (.tmp 8)), none⟩])
 (.ret [false, false, false, false, true, false, false, false, false])))⟩
theorem ok34 : FnOK Try.prog 34 c34 := ⟨Try.f34, _, Try.func34, by kernel_rfl, rfl, by kernel_rfl, by kernel_rfl, by kernel_rfl⟩

/-- (sizar/op.Op).between. -/
def c35 : AFun := ⟨16, [.tmp 2], false, (.seq (.reg [⟨(some 1), .op (.box (.tmp 0)), none⟩,
   ⟨(some 2), .op (.mov (.const (.bool false))), none⟩])
 (.seq (.reg [⟨(some 3), .op (.fad 1 (.tmp 1)), none⟩,
   ⟨(some 4), .op (.ld none (.tmp 3)), none⟩,
   ⟨(some 5), .op (.bin .eql (.tmp 4) (.const (.str [120, 102, 120]))), none⟩,
   ⟨(some 6), .op (.mov (.tmp 5)), none⟩,
   ⟨(some 7), .op (.fad 1 (.tmp 1)), (some (6, false))⟩,
   ⟨(some 8), .op (.ld none (.tmp 7)), (some (6, false))⟩,
   ⟨(some 9), .op (.bin .eql (.tmp 8) (.const (.str [120, 102, 121]))), (some (6, false))⟩,
   ⟨(some 10), .op (.pick (.tmp 6) (.const (.bool true)) (.tmp 9)), none⟩,
   ⟨(some 11), .op (.mov (.tmp 10)), none⟩,
   ⟨(some 12), .op (.fad 1 (.tmp 1)), (some (11, false))⟩,
   ⟨(some 13), .op (.ld none (.tmp 12)), (some (11, false))⟩,
   ⟨(some 14), .op (.bin .eql (.tmp 13) (.const (.str [121, 102, 120]))), (some (11, false))⟩,
   ⟨(some 15), .op (.pick (.tmp 11) (.const (.bool true)) (.tmp 14)), none⟩,
   ⟨(some 2), .op (.mov (.tmp 15)), none⟩])
 (.ret [false, false, true, false, false, false, false, false, false, false, false, false, false, false, false, false])))⟩
theorem ok35 : FnOK Try.prog 35 c35 := ⟨Try.f35, _, Try.func35, by kernel_rfl, rfl, by kernel_rfl, by kernel_rfl, by kernel_rfl⟩

/-- sizar/op.find$1. -/
def c36 : AFun := ⟨15, [.tmp 4], false, (.seq (.reg [⟨(some 3), .op (.box (.tmp 0)), none⟩,
   ⟨(some 4), .op (.mov (.const (.bool false))), none⟩])
 (.seq (.dreg [⟨(some 5), .op (.fad 0 (.tmp 3)), none⟩,
   ⟨(some 6), .op (.ld none (.tmp 5)), none⟩,
   ⟨(some 7), .op (.ld none (.tmp 1)), none⟩,
   ⟨(some 8), .op (.bin .eql (.tmp 6) (.tmp 7)), none⟩,
   ⟨(some 9), .op (.mov (.tmp 8)), none⟩,
   ⟨(some 10), .op (.ld (some 3) (.tmp 3)), (some (9, true))⟩,
   ⟨(some 11), .call 33 [(.tmp 10)], (some (9, true))⟩,
   ⟨(some 12), .op (.ld none (.tmp 2)), (some (9, true))⟩,
   ⟨(some 13), .op (.beq false (.tmp 11) (.tmp 12)), (some (9, true))⟩,
   ⟨(some 14), .op (.pick (.tmp 9) (.tmp 13) (.const (.bool false))), none⟩,
   ⟨(some 4), .op (.mov (.tmp 14)), none⟩] [(7, 6)])
 (.ret [false, false, false, false, true, false, false, false, false, false, false, false, false, false, false])))⟩
theorem ok36 : FnOK Try.prog 36 c36 := ⟨Try.f36, _, Try.func36, by kernel_rfl, rfl, by kernel_rfl, by kernel_rfl, by kernel_rfl⟩

/-- sizar/sizarref1.ahead. -/
def c37 : AFun := ⟨9, [.tmp 2], false, (.seq (.reg [⟨(some 2), .op (.mov (.const (.bool false))), none⟩])
 (.seq (.reg [⟨(some 3), .op (.mov (.tmp 0)), none⟩,
   ⟨(some 4), .op (.bin .eql (.tmp 3) (.const (.str [102, 121]))), none⟩,
   ⟨(some 5), .op (.mov (.tmp 4)), none⟩,
   ⟨(some 6), .op (.mov (.tmp 0)), (some (5, false))⟩,
   ⟨(some 7), .op (.bin .eql (.tmp 6) (.const (.str [102, 120]))), (some (5, false))⟩,
   ⟨(some 8), .op (.pick (.tmp 5) (.const (.bool true)) (.tmp 7)), none⟩,
   ⟨(some 2), .op (.mov (.tmp 8)), none⟩])
 (.ret [false, false, true, false, false, false, false, false, false])))⟩
theorem ok37 : FnOK Try.prog 37 c37 := ⟨Try.f37, _, Try.func37, by kernel_rfl, rfl, by kernel_rfl, by kernel_rfl, by kernel_rfl⟩

/-- slices.Index[[]string,string]. -/
def c38_m0 : List Bool := [true, true, false, false, false, false, false, true, true, false, false, false, false, false, false, false, false, false, false]
abbrev c38_f0 (v0 v1 v7 v8 : AV) : List AV := [v0, v1, .undef, .undef, .undef, .undef, .undef, v7, v8, .undef, .undef, .undef, .undef, .undef, .undef, .undef, .undef, .undef, .undef]
def c38_b0 : ACode := (.seq (.reg [⟨(some 9), .op (.bin .lss (.tmp 8) (.tmp 7)), none⟩])
 (.seq (.cond (.tmp 9) .skip
 (.exit 0 [false, false, false, false, false, false, false, false, false, false, false, false, false, false, false, false, false, false, false]))
 (.seq (.block 1 (.seq (.reg [⟨(some 10), .op (.mov (.tmp 8)), none⟩,
    ⟨(some 5), .op (.mov (.tmp 10)), none⟩])
  (.seq (.reg [⟨(some 11), .op (.mov (.tmp 1)), none⟩,
    ⟨(some 12), .op (.mov (.tmp 0)), none⟩,
    ⟨(some 13), .op (.mov (.tmp 5)), none⟩,
    ⟨(some 14), .op (.iad 1 (.tmp 12) (.tmp 13)), none⟩,
    ⟨(some 15), .op (.ld none (.tmp 14)), none⟩,
    ⟨(some 16), .op (.bin .eql (.tmp 11) (.tmp 15)), none⟩])
  (.cond (.tmp 16) (.seq (.reg [⟨(some 17), .op (.mov (.tmp 5)), none⟩,
     ⟨(some 4), .op (.mov (.tmp 17)), none⟩])
   (.ret [false, false, false, false, true, false, false, false, false, false, false, false, false, false, false, false, false, false, false]))
  .skip))))
 (.reg [⟨(some 18), .op (.bin .add (.tmp 8) (.const (.int .i64 1))), none⟩,
   ⟨(some 8), .op (.mov (.tmp 18)), none⟩]))))
def c38 : AFun := ⟨19, [.tmp 4], false, (.seq (.reg [⟨(some 4), .op (.mov (.const (.int .i64 0))), none⟩])
 (.seq (.seq (.reg [⟨(some 6), .op (.mov (.tmp 0)), none⟩,
   ⟨(some 7), .op (.lenv (.tmp 6)), none⟩,
   ⟨(some 8), .op (.mov (.const (.int .i64 0))), none⟩])
 (.block 0 (.loop c38_m0 c38_b0)))
 (.seq (.reg [⟨(some 4), .op (.mov (.const (.int .i64 (-1)))), none⟩])
 (.ret [false, false, false, false, true, false, false, false, false, false, false, false, false, false, false, false, false, false, false]))))⟩
theorem ok38 : FnOK Try.prog 38 c38 := ⟨Try.f38, _, Try.func38, by kernel_rfl, rfl, by kernel_rfl, by kernel_rfl, by kernel_rfl⟩

/- done: [2, 3, 4, 5, 6, 7, 8, 9, 10, 11, 12, 13, 14, 15, 16, 17, 18, 19, 20, 21, 22, 23, 24, 25, 26, 27, 28, 29, 30, 31, 32, 33, 34, 35, 36, 37, 38] -/

end Go.Proofs.Ytlofbalilhohmaa

namespace Go.Proofs.Ytlofbalilhohmaa
open Go Sz

def fnAt : Nat → Option AFun
  | 2 => some c2
  | 3 => some c3
  | 4 => some c4
  | 5 => some c5
  | 6 => some c6
  | 7 => some c7
  | 8 => some c8
  | 9 => some c9
  | 10 => some c10
  | 11 => some c11
  | 12 => some c12
  | 13 => some c13
  | 14 => some c14
  | 15 => some c15
  | 16 => some c16
  | 17 => some c17
  | 18 => some c18
  | 19 => some c19
  | 20 => some c20
  | 21 => some c21
  | 22 => some c22
  | 23 => some c23
  | 24 => some c24
  | 25 => some c25
  | 26 => some c26
  | 27 => some c27
  | 28 => some c28
  | 29 => some c29
  | 30 => some c30
  | 31 => some c31
  | 32 => some c32
  | 33 => some c33
  | 34 => some c34
  | 35 => some c35
  | 36 => some c36
  | 37 => some c37
  | 38 => some c38
  | _ => none

theorem fnAt_ok (f : Nat) (F : AFun) (h : fnAt f = some F) : FnOK Try.prog f F := by
  unfold fnAt at h
  split at h
  · cases h; exact ok2
  · cases h; exact ok3
  · cases h; exact ok4
  · cases h; exact ok5
  · cases h; exact ok6
  · cases h; exact ok7
  · cases h; exact ok8
  · cases h; exact ok9
  · cases h; exact ok10
  · cases h; exact ok11
  · cases h; exact ok12
  · cases h; exact ok13
  · cases h; exact ok14
  · cases h; exact ok15
  · cases h; exact ok16
  · cases h; exact ok17
  · cases h; exact ok18
  · cases h; exact ok19
  · cases h; exact ok20
  · cases h; exact ok21
  · cases h; exact ok22
  · cases h; exact ok23
  · cases h; exact ok24
  · cases h; exact ok25
  · cases h; exact ok26
  · cases h; exact ok27
  · cases h; exact ok28
  · cases h; exact ok29
  · cases h; exact ok30
  · cases h; exact ok31
  · cases h; exact ok32
  · cases h; exact ok33
  · cases h; exact ok34
  · cases h; exact ok35
  · cases h; exact ok36
  · cases h; exact ok37
  · cases h; exact ok38
  · cases h

theorem mixed : Try.prog.follows .mixedOrders = true := by kernel_rfl

def cloneS (f : Nat) : Spec := ⟨f, fun | [.nils] => some .nils | [.sl []] => some .nils | _ => none⟩
theorem cloneS_f (f : Nat) : (cloneS f).f = f := rfl
theorem cloneS_nils (f : Nat) : (cloneS f).S [.nils] = some .nils := rfl
theorem cloneS_sl0 (f : Nat) : (cloneS f).S [.sl []] = some .nils := rfl
theorem cloneS_sl (f : Nat) {xs : List AV} (h : xs ≠ []) : (cloneS f).S [.sl xs] = none := by
  cases xs with
  | nil => exact absurd rfl h
  | cons x r => rfl
theorem cloneS_ok {f : Nat} (hc : CloneAt Try.prog f) : SpecOK Try.prog (cloneS f) := fun args v hv => by
  have key : ∀ x, x = AV.nils ∨ x = .sl [] → args = [x] → v = .nils → PrimOK Try.prog f args v := fun x hx ha h2 => by
    subst ha h2
    exact fun φ h w cargs hr ha => .inl (clone_prim mixed hc hx hr ha)
  unfold cloneS at hv
  dsimp only at hv
  split at hv
  · cases hv; exact key _ (.inl rfl) rfl rfl
  · cases hv; exact key _ (.inr rfl) rfl rfl
  · cases hv

def clones : List Spec := [cloneS 27]
theorem clones_ok : ∀ s ∈ clones, SpecOK Try.prog s := by
  intro s hs
  simp only [clones, List.mem_cons, List.not_mem_nil, or_false] at hs
  subst hs
  · exact cloneS_ok clone27

noncomputable def envOf (ss : List Spec) : Env := mkEnv fnAt (ss ++ clones)
theorem envOf_ok {ss : List Spec} (hs : ∀ s ∈ ss, SpecOK Try.prog s) : EnvOK Try.prog (envOf ss) :=
  mkEnv_ok mixed fnAt_ok fun s h => by
    rcases List.mem_append.1 h with h | h
    · exact hs s h
    · exact clones_ok s h

/-- A function's run. -/
noncomputable def evB (ss : List Spec) (n : Nat) (F : AFun) (args : List AV) (h : Heap) : Option (AV × Heap) :=
  match evCode (evCall (envOf ss) n) n F.code (args ++ List.replicate (F.ntmps - args.length) .undef) ⟨h.next, h.objs, h.next, h.next⟩ with
    | some (.exit _, _, _) => none
    | some (_, fr, h') => (match resAll fr h' F.results with | some vs => some (finish F.keep h (oneOf vs) h') | none => none)
    | none => none
/-- A call without its answer being known ahead. -/
noncomputable def evFn (ss : List Spec) (n f : Nat) (args : List AV) (h : Heap) : Option (AV × Heap) :=
  match fnAt f with
  | none => none
  | some F => evB ss n F args h
theorem evCall_spec (ss : List Spec) (n f : Nat) (args : List AV) (h : Heap) : evCall (envOf ss) (n + 1) f args h = match lookS (ss ++ clones) f args with
    | some v => some (v, h)
    | none => evFn ss n f args h := by
  conv => lhs; unfold evCall
  have e : (envOf ss).prim f args = lookS (ss ++ clones) f args := rfl
  have e2 : (envOf ss).fn f = fnAt f := rfl
  rw [e, e2]
  unfold evFn
  cases lookS (ss ++ clones) f args with
  | some v => rfl
  | none =>
    cases fnAt f with
    | none => rfl
    | some F =>
      dsimp only
      unfold evB
      cases evCode (evCall (envOf ss) n) n F.code (args ++ List.replicate (F.ntmps - args.length) .undef) ⟨h.next, h.objs, h.next, h.next⟩ with
      | none => rfl
      | some r =>
        obtain ⟨ex, fr, h'⟩ := r
        cases ex <;> first | rfl | (dsimp only; cases resAll fr h' F.results <;> rfl)
theorem run2 (ss : List Spec) (n : Nat) (args : List AV) (h : Heap) : evFn ss n 2 args h = evB ss n c2 args h := rfl
theorem run3 (ss : List Spec) (n : Nat) (args : List AV) (h : Heap) : evFn ss n 3 args h = evB ss n c3 args h := rfl
theorem run4 (ss : List Spec) (n : Nat) (args : List AV) (h : Heap) : evFn ss n 4 args h = evB ss n c4 args h := rfl
theorem run5 (ss : List Spec) (n : Nat) (args : List AV) (h : Heap) : evFn ss n 5 args h = evB ss n c5 args h := rfl
theorem run6 (ss : List Spec) (n : Nat) (args : List AV) (h : Heap) : evFn ss n 6 args h = evB ss n c6 args h := rfl
theorem run7 (ss : List Spec) (n : Nat) (args : List AV) (h : Heap) : evFn ss n 7 args h = evB ss n c7 args h := rfl
theorem run8 (ss : List Spec) (n : Nat) (args : List AV) (h : Heap) : evFn ss n 8 args h = evB ss n c8 args h := rfl
theorem run9 (ss : List Spec) (n : Nat) (args : List AV) (h : Heap) : evFn ss n 9 args h = evB ss n c9 args h := rfl
theorem run10 (ss : List Spec) (n : Nat) (args : List AV) (h : Heap) : evFn ss n 10 args h = evB ss n c10 args h := rfl
theorem run11 (ss : List Spec) (n : Nat) (args : List AV) (h : Heap) : evFn ss n 11 args h = evB ss n c11 args h := rfl
theorem run12 (ss : List Spec) (n : Nat) (args : List AV) (h : Heap) : evFn ss n 12 args h = evB ss n c12 args h := rfl
theorem run13 (ss : List Spec) (n : Nat) (args : List AV) (h : Heap) : evFn ss n 13 args h = evB ss n c13 args h := rfl
theorem run14 (ss : List Spec) (n : Nat) (args : List AV) (h : Heap) : evFn ss n 14 args h = evB ss n c14 args h := rfl
theorem run15 (ss : List Spec) (n : Nat) (args : List AV) (h : Heap) : evFn ss n 15 args h = evB ss n c15 args h := rfl
theorem run16 (ss : List Spec) (n : Nat) (args : List AV) (h : Heap) : evFn ss n 16 args h = evB ss n c16 args h := rfl
theorem run17 (ss : List Spec) (n : Nat) (args : List AV) (h : Heap) : evFn ss n 17 args h = evB ss n c17 args h := rfl
theorem run18 (ss : List Spec) (n : Nat) (args : List AV) (h : Heap) : evFn ss n 18 args h = evB ss n c18 args h := rfl
theorem run19 (ss : List Spec) (n : Nat) (args : List AV) (h : Heap) : evFn ss n 19 args h = evB ss n c19 args h := rfl
theorem run20 (ss : List Spec) (n : Nat) (args : List AV) (h : Heap) : evFn ss n 20 args h = evB ss n c20 args h := rfl
theorem run21 (ss : List Spec) (n : Nat) (args : List AV) (h : Heap) : evFn ss n 21 args h = evB ss n c21 args h := rfl
theorem run22 (ss : List Spec) (n : Nat) (args : List AV) (h : Heap) : evFn ss n 22 args h = evB ss n c22 args h := rfl
theorem run23 (ss : List Spec) (n : Nat) (args : List AV) (h : Heap) : evFn ss n 23 args h = evB ss n c23 args h := rfl
theorem run24 (ss : List Spec) (n : Nat) (args : List AV) (h : Heap) : evFn ss n 24 args h = evB ss n c24 args h := rfl
theorem run25 (ss : List Spec) (n : Nat) (args : List AV) (h : Heap) : evFn ss n 25 args h = evB ss n c25 args h := rfl
theorem run26 (ss : List Spec) (n : Nat) (args : List AV) (h : Heap) : evFn ss n 26 args h = evB ss n c26 args h := rfl
theorem run27 (ss : List Spec) (n : Nat) (args : List AV) (h : Heap) : evFn ss n 27 args h = evB ss n c27 args h := rfl
theorem run28 (ss : List Spec) (n : Nat) (args : List AV) (h : Heap) : evFn ss n 28 args h = evB ss n c28 args h := rfl
theorem run29 (ss : List Spec) (n : Nat) (args : List AV) (h : Heap) : evFn ss n 29 args h = evB ss n c29 args h := rfl
theorem run30 (ss : List Spec) (n : Nat) (args : List AV) (h : Heap) : evFn ss n 30 args h = evB ss n c30 args h := rfl
theorem run31 (ss : List Spec) (n : Nat) (args : List AV) (h : Heap) : evFn ss n 31 args h = evB ss n c31 args h := rfl
theorem run32 (ss : List Spec) (n : Nat) (args : List AV) (h : Heap) : evFn ss n 32 args h = evB ss n c32 args h := rfl
theorem run33 (ss : List Spec) (n : Nat) (args : List AV) (h : Heap) : evFn ss n 33 args h = evB ss n c33 args h := rfl
theorem run34 (ss : List Spec) (n : Nat) (args : List AV) (h : Heap) : evFn ss n 34 args h = evB ss n c34 args h := rfl
theorem run35 (ss : List Spec) (n : Nat) (args : List AV) (h : Heap) : evFn ss n 35 args h = evB ss n c35 args h := rfl
theorem run36 (ss : List Spec) (n : Nat) (args : List AV) (h : Heap) : evFn ss n 36 args h = evB ss n c36 args h := rfl
theorem run37 (ss : List Spec) (n : Nat) (args : List AV) (h : Heap) : evFn ss n 37 args h = evB ss n c37 args h := rfl
theorem run38 (ss : List Spec) (n : Nat) (args : List AV) (h : Heap) : evFn ss n 38 args h = evB ss n c38 args h := rfl

end Go.Proofs.Ytlofbalilhohmaa
