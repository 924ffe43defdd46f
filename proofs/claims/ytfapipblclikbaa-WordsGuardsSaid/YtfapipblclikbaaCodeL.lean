/-
  The compact code of functions of this seat, as translated from the model: each translation holds by reckoning. Conditions: none.
-/
import Derived.Test.YtfapipblclikbaaCode
set_option maxRecDepth 100000
namespace Go.Proofs.Ytfapipblclikbaa
open Go Go.Ev

/-- allotment/allotmentlaw2.WordsCounts -/
theorem tr3 : trF Try.prog pures Try.f3 = some
  ⟨104, [(.t 4)],
    (.seq (.reg [⟨(some 4), (.mv (.const (.bool false))), none⟩])
    (.seq (.seq
    (.reg [⟨(some 10), (.call 28 []), none⟩, ⟨(some 11), (.nt (.tmp 10)), none⟩])
    (.cond (.tmp 11)
    (.seq (.reg [⟨(some 4), (.mv (.const (.bool false))), none⟩]) .ret) .skip))
    (.seq (.seq
    (.reg [⟨(some 12), (.mv (.tmp 0)), none⟩, ⟨(some 13), (.len (.tmp 12)), none⟩, ⟨(some 14), (.cmp .gtr (.tmp 13) (.const (.int .i64 100))), none⟩])
    (.cond (.tmp 14)
    (.seq (.reg [⟨(some 4), (.mv (.const (.bool true))), none⟩]) .ret) .skip))
    (.seq (.reg [⟨(some 15), (.call 29 [(.const (.int .i64 3))]), none⟩, ⟨(some 5), (.mv (.tmp 15)), none⟩])
    (.seq (.seq
    (.reg [⟨(some 16), (.mv (.tmp 5)), none⟩, ⟨(some 17), (.pnil false (.tmp 16)), none⟩])
    (.cond (.tmp 17)
    (.seq (.reg [⟨(some 4), (.mv (.const (.bool false))), none⟩]) .ret) .skip))
    (.seq (.reg [⟨(some 18), (.mv (.tmp 1)), none⟩, ⟨(some 19), (.cv .i64 (.tmp 18)), none⟩, ⟨(some 20), (.dv .rem (.tmp 19) (.const (.int .i64 3))), none⟩, ⟨(some 6), (.mv (.tmp 20)), none⟩])
    (.seq (.reg [⟨(some 7), (.mv (.const (.int .u64 0))), none⟩])
    (.seq (.seq
    (.reg [⟨(some 8), (.mv (.const (.int .i64 0))), none⟩])
    (.block 0
    (.loop (.seq
    (.seq (.reg [⟨(some 21), (.mv (.tmp 8)), none⟩, ⟨(some 22), (.mv (.tmp 0)), none⟩, ⟨(some 23), (.len (.tmp 22)), none⟩, ⟨(some 24), (.cmp .lss (.tmp 21) (.tmp 23)), none⟩])
    (.cond (.tmp 24) .skip (.exit 0)))
    (.seq (.block 1
    (.seq (.seq
    (.reg [⟨(some 27), (.mv (.tmp 8)), none⟩, ⟨(some 28), (.dv .rem (.tmp 27) (.const (.int .i64 2))), none⟩, ⟨(some 29), (.cmp .eql (.tmp 28) (.const (.int .i64 0))), none⟩])
    (.cond (.tmp 29)
    (.seq (.seq
    (.reg [⟨(some 30), (.mv (.tmp 5)), none⟩, ⟨(some 31), (.mv (.tmp 8)), none⟩, ⟨(some 32), (.mv (.tmp 6)), none⟩, ⟨(some 33), (.mv (.tmp 0)), none⟩, ⟨(some 34), (.mv (.tmp 8)), none⟩, ⟨(some 35), (.iad 1 (.tmp 33) (.tmp 34)), none⟩, ⟨(some 36), (.ld1 (.tmp 35)), none⟩, ⟨(some 37), (.call 30 [(.tmp 30), (.tmp 31), (.tmp 32), (.tmp 36)]), none⟩, ⟨(some 38), (.mv (.tmp 7)), none⟩, ⟨(some 39), (.cmp .neq (.tmp 37) (.tmp 38)), none⟩])
    (.cond (.tmp 39)
    (.seq (.reg [⟨(some 4), (.mv (.const (.bool false))), none⟩]) .ret) .skip))
    (.seq (.reg [⟨(some 40), (.mv (.tmp 7)), none⟩, ⟨(some 41), (.mv (.tmp 0)), none⟩, ⟨(some 42), (.mv (.tmp 8)), none⟩, ⟨(some 43), (.iad 1 (.tmp 41) (.tmp 42)), none⟩, ⟨(some 44), (.ld1 (.tmp 43)), none⟩, ⟨(some 45), (.ar .add (.tmp 40) (.tmp 44)), none⟩, ⟨(some 7), (.mv (.tmp 45)), none⟩]) (.exit 1))) .skip))
    (.seq (.reg [⟨(some 46), (.mv (.tmp 5)), none⟩, ⟨(some 47), (.mv (.tmp 8)), none⟩, ⟨(some 48), (.mv (.tmp 6)), none⟩, ⟨(some 49), (.call 31 [(.tmp 46), (.tmp 47), (.tmp 48)]), none⟩, ⟨(some 9), (.mv (.tmp 49)), none⟩])
    (.seq (.seq
    (.reg [⟨(some 50), (.mv (.tmp 9)), none⟩, ⟨(some 51), (.mv (.tmp 7)), none⟩, ⟨(some 52), (.cmp .neq (.tmp 50) (.tmp 51)), none⟩, ⟨(some 53), (.mv (.tmp 52)), none⟩, ⟨(some 54), (.mv (.tmp 5)), (some (53, false))⟩, ⟨(some 55), (.mv (.tmp 8)), (some (53, false))⟩, ⟨(some 56), (.mv (.tmp 6)), (some (53, false))⟩, ⟨(some 57), (.mv (.tmp 9)), (some (53, false))⟩, ⟨(some 58), (.ar .add (.tmp 57) (.const (.int .u64 1))), (some (53, false))⟩, ⟨(some 59), (.call 32 [(.tmp 54), (.tmp 55), (.tmp 56), (.tmp 58), (.const (.int .u64 5))]), (some (53, false))⟩, ⟨(some 60), (.pick (.tmp 53) (.const (.bool true)) (.tmp 59)), none⟩, ⟨(some 61), (.mv (.tmp 60)), none⟩, ⟨(some 62), (.mv (.tmp 5)), (some (61, false))⟩, ⟨(some 63), (.mv (.tmp 8)), (some (61, false))⟩, ⟨(some 64), (.mv (.tmp 6)), (some (61, false))⟩, ⟨(some 65), (.mv (.tmp 9)), (some (61, false))⟩, ⟨(some 66), (.mv (.tmp 0)), (some (61, false))⟩, ⟨(some 67), (.mv (.tmp 8)), (some (61, false))⟩, ⟨(some 68), (.iad 1 (.tmp 66) (.tmp 67)), (some (61, false))⟩, ⟨(some 69), (.ld1 (.tmp 68)), (some (61, false))⟩, ⟨(some 70), (.call 32 [(.tmp 62), (.tmp 63), (.tmp 64), (.tmp 65), (.tmp 69)]), (some (61, false))⟩, ⟨(some 71), (.nt (.tmp 70)), (some (61, false))⟩, ⟨(some 72), (.pick (.tmp 61) (.const (.bool true)) (.tmp 71)), none⟩])
    (.cond (.tmp 72)
    (.seq (.reg [⟨(some 4), (.mv (.const (.bool false))), none⟩]) .ret) .skip))
    (.reg [⟨(some 73), (.mv (.tmp 0)), none⟩, ⟨(some 74), (.mv (.tmp 8)), none⟩, ⟨(some 75), (.iad 1 (.tmp 73) (.tmp 74)), none⟩, ⟨(some 76), (.ld1 (.tmp 75)), none⟩, ⟨(some 7), (.mv (.tmp 76)), none⟩])))))
    (.reg [⟨(some 25), (.mv (.tmp 8)), none⟩, ⟨(some 26), (.ar .add (.tmp 25) (.const (.int .i64 1))), none⟩, ⟨(some 8), (.mv (.tmp 26)), none⟩]))))))
    (.seq (.reg [⟨(some 77), (.mv (.tmp 5)), none⟩, ⟨(some 78), (.mv (.tmp 6)), none⟩, ⟨(some 79), (.call 33 [(.tmp 77), (.tmp 78)]), none⟩, ⟨(some 80), (.mv (.tmp 7)), none⟩, ⟨(some 81), (.cmp .eql (.tmp 79) (.tmp 80)), none⟩, ⟨(some 82), (.mv (.tmp 81)), none⟩, ⟨(some 83), (.mv (.tmp 5)), (some (82, true))⟩, ⟨(some 84), (.mv (.tmp 6)), (some (82, true))⟩, ⟨(some 85), (.ar .add (.tmp 84) (.const (.int .i64 1))), (some (82, true))⟩, ⟨(some 86), (.dv .rem (.tmp 85) (.const (.int .i64 3))), (some (82, true))⟩, ⟨(some 87), (.call 33 [(.tmp 83), (.tmp 86)]), (some (82, true))⟩, ⟨(some 88), (.cmp .eql (.tmp 87) (.const (.int .u64 0))), (some (82, true))⟩, ⟨(some 89), (.pick (.tmp 82) (.tmp 88) (.const (.bool false))), none⟩, ⟨(some 90), (.mv (.tmp 89)), none⟩, ⟨(some 91), (.mv (.tmp 5)), (some (90, true))⟩, ⟨(some 92), (.call 34 [(.tmp 91)]), (some (90, true))⟩, ⟨(some 93), (.mv (.tmp 0)), (some (90, true))⟩, ⟨(some 94), (.len (.tmp 93)), (some (90, true))⟩, ⟨(some 95), (.ar .add (.tmp 94) (.const (.int .i64 1))), (some (90, true))⟩, ⟨(some 96), (.dv .quo (.tmp 95) (.const (.int .i64 2))), (some (90, true))⟩, ⟨(some 97), (.mv (.tmp 0)), (some (90, true))⟩, ⟨(some 98), (.len (.tmp 97)), (some (90, true))⟩, ⟨(some 99), (.dv .quo (.tmp 98) (.const (.int .i64 2))), (some (90, true))⟩, ⟨(some 100), (.ar .mul (.const (.int .i64 3)) (.tmp 99)), (some (90, true))⟩, ⟨(some 101), (.ar .add (.tmp 96) (.tmp 100)), (some (90, true))⟩, ⟨(some 102), (.cmp .eql (.tmp 92) (.tmp 101)), (some (90, true))⟩, ⟨(some 103), (.pick (.tmp 90) (.tmp 102) (.const (.bool false))), none⟩, ⟨(some 4), (.mv (.tmp 103)), none⟩]) .ret)))))))))⟩ := by kernel_rfl

/-- allotment/allotmentlaw2.WordsGuards -/
theorem tr4 : trF Try.prog pures Try.f4 = some
  ⟨65, [(.t 6)],
    (.seq (.reg [⟨(some 4), (.box 3 (.tmp 1)), none⟩, ⟨(some 5), (.box 9 (.tmp 2)), none⟩, ⟨(some 6), (.mv (.const (.bool false))), none⟩])
    (.seq (.seq
    (.reg [⟨(some 16), (.call 28 []), none⟩, ⟨(some 17), (.nt (.tmp 16)), none⟩])
    (.cond (.tmp 17)
    (.seq (.reg [⟨(some 6), (.mv (.const (.bool false))), none⟩]) .ret) .skip))
    (.seq (.reg [⟨(some 18), (.call 29 [(.const (.int .i64 4))]), none⟩, ⟨(some 7), (.alc 24 (.pointer none)), none⟩, ⟨none, (.st1 (.tmp 7) (.tmp 18)), none⟩])
    (.seq (.seq
    (.reg [⟨(some 19), (.ld1 (.tmp 7)), none⟩, ⟨(some 20), (.pnil false (.tmp 19)), none⟩])
    (.cond (.tmp 20)
    (.seq (.reg [⟨(some 6), (.mv (.const (.bool false))), none⟩]) .ret) .skip))
    (.seq (.reg [⟨(some 21), (.mv (.tmp 0)), none⟩, ⟨(some 22), (.cv .i64 (.tmp 21)), none⟩, ⟨(some 23), (.dv .rem (.tmp 22) (.const (.int .i64 20))), none⟩, ⟨(some 8), (.alc 3 (.int .i64 0)), none⟩, ⟨none, (.st1 (.tmp 8) (.tmp 23)), none⟩])
    (.seq (.reg [⟨(some 24), (.mkf (.func 35) [] [(.tmp 8), (.tmp 7), (.tmp 4)]), none⟩, ⟨(some 9), (.mv (.tmp 24)), none⟩])
    (.seq (.reg [⟨(some 25), (.ld1 (.tmp 4)), none⟩, ⟨(some 26), (.cmp .geq (.tmp 25) (.const (.int .i64 0))), none⟩, ⟨(some 27), (.mv (.tmp 26)), none⟩, ⟨(some 28), (.ld1 (.tmp 4)), (some (27, true))⟩, ⟨(some 29), (.cmp .lss (.tmp 28) (.const (.int .i64 4))), (some (27, true))⟩, ⟨(some 30), (.pick (.tmp 27) (.tmp 29) (.const (.bool false))), none⟩, ⟨(some 10), (.mv (.tmp 30)), none⟩])
    (.seq (.reg [⟨(some 31), (.mv (.tmp 9)), none⟩, ⟨(some 32), (.call 36 [(.tmp 31)]), none⟩, ⟨(some 11), (.mv (.tmp 32)), none⟩])
    (.seq (.reg [⟨(some 12), (.alc 24 (.pointer none)), none⟩])
    (.seq (.reg [⟨(some 33), (.mkf (.func 39) [] [(.tmp 12)]), none⟩, ⟨(some 34), (.call 36 [(.tmp 33)]), none⟩, ⟨(some 13), (.mv (.tmp 34)), none⟩])
    (.seq (.reg [⟨(some 35), (.mkf (.func 40) [] [(.tmp 5)]), none⟩, ⟨(some 36), (.call 36 [(.tmp 35)]), none⟩, ⟨(some 14), (.mv (.tmp 36)), none⟩])
    (.seq (.reg [⟨(some 15), (.mv (.const (.int .u64 9))), none⟩])
    (.seq (.seq
    (.reg [⟨(some 37), (.mv (.tmp 10)), none⟩])
    (.cond (.tmp 37)
    (.reg [⟨(some 15), (.mv (.const (.int .u64 0))), none⟩]) .skip))
    (.seq (.draw (.take ⟨(some 38), (.mv (.tmp 11)), none⟩ (.take ⟨(some 39), (.mv (.tmp 38)), none⟩ (.take ⟨(some 40), (.mv (.tmp 13)), (some (39, true))⟩ (.take ⟨(some 41), (.nt (.tmp 40)), (some (39, true))⟩ (.take ⟨(some 42), (.pick (.tmp 39) (.tmp 41) (.const (.bool false))), none⟩ (.take ⟨(some 43), (.mv (.tmp 42)), none⟩ (.take ⟨(some 44), (.mv (.tmp 14)), (some (43, true))⟩ (.take ⟨(some 45), (.nt (.tmp 44)), (some (43, true))⟩ (.take ⟨(some 46), (.pick (.tmp 43) (.tmp 45) (.const (.bool false))), none⟩ (.take ⟨(some 47), (.mv (.tmp 46)), none⟩ (.take ⟨(some 48), (.ld1 (.tmp 7)), (some (47, true))⟩ (.take ⟨(some 50), (.ld1 (.tmp 8)), (some (47, true))⟩ (.take ⟨(some 51), (.cv .u64 (.tmp 50)), (some (47, true))⟩ (.alt false ⟨(some 49), (.call 33 [(.tmp 48), (.const (.int .i64 1))]), (some (47, true))⟩ (.take ⟨(some 52), (.cmp .eql (.tmp 49) (.tmp 51)), (some (47, true))⟩ (.take ⟨(some 53), (.pick (.tmp 47) (.tmp 52) (.const (.bool false))), none⟩ (.take ⟨(some 54), (.mv (.tmp 53)), none⟩ (.take ⟨(some 55), (.ld1 (.tmp 7)), (some (54, true))⟩ (.alt false ⟨(some 56), (.call 33 [(.tmp 55), (.const (.int .i64 2))]), (some (54, true))⟩ (.take ⟨(some 57), (.cmp .eql (.tmp 56) (.const (.int .u64 7))), (some (54, true))⟩ (.take ⟨(some 58), (.pick (.tmp 54) (.tmp 57) (.const (.bool false))), none⟩ (.take ⟨(some 59), (.mv (.tmp 58)), none⟩ (.take ⟨(some 60), (.ld1 (.tmp 7)), (some (59, true))⟩ (.take ⟨(some 62), (.mv (.tmp 15)), (some (59, true))⟩ (.alt false ⟨(some 61), (.call 33 [(.tmp 60), (.const (.int .i64 3))]), (some (59, true))⟩ (.take ⟨(some 63), (.cmp .eql (.tmp 61) (.tmp 62)), (some (59, true))⟩ (.take ⟨(some 64), (.pick (.tmp 59) (.tmp 63) (.const (.bool false))), none⟩ (.take ⟨(some 6), (.mv (.tmp 64)), none⟩ .done))) .stop)))))) .stop))))) .stop))))))))))))))) .ret))))))))))))))⟩ := by kernel_rfl

/-- allotment/allotmentlaw2.WordsOne -/
theorem tr5 : trF Try.prog pures Try.f5 = some
  ⟨188, [(.t 4)],
    (.seq (.reg [⟨(some 3), (.box 37 (.tmp 1)), none⟩, ⟨(some 4), (.mv (.const (.bool false))), none⟩])
    (.seq (.seq
    (.reg [⟨(some 12), (.call 28 []), none⟩, ⟨(some 13), (.nt (.tmp 12)), none⟩])
    (.cond (.tmp 13)
    (.seq (.reg [⟨(some 4), (.mv (.const (.bool false))), none⟩]) .ret) .skip))
    (.seq (.seq
    (.reg [⟨(some 14), (.mv (.tmp 0)), none⟩, ⟨(some 15), (.len (.tmp 14)), none⟩, ⟨(some 16), (.cmp .eql (.tmp 15) (.const (.int .i64 0))), none⟩, ⟨(some 17), (.mv (.tmp 16)), none⟩, ⟨(some 18), (.mv (.tmp 0)), (some (17, false))⟩, ⟨(some 19), (.len (.tmp 18)), (some (17, false))⟩, ⟨(some 20), (.cmp .gtr (.tmp 19) (.const (.int .i64 100))), (some (17, false))⟩, ⟨(some 21), (.pick (.tmp 17) (.const (.bool true)) (.tmp 20)), none⟩])
    (.cond (.tmp 21)
    (.seq (.reg [⟨(some 4), (.mv (.const (.bool true))), none⟩]) .ret) .skip))
    (.seq (.reg [⟨(some 22), (.mv (.tmp 0)), none⟩, ⟨(some 23), (.call 41 [(.tmp 22)]), none⟩, ⟨(some 5), (.mv (.tmp 23)), none⟩])
    (.seq (.reg [⟨(some 24), (.fad 2 (.tmp 3)), none⟩, ⟨(some 25), (.ld1 (.tmp 24)), none⟩, ⟨(some 26), (.mv (.tmp 0)), none⟩, ⟨(some 27), (.len (.tmp 26)), none⟩, ⟨(some 28), (.dv .rem (.tmp 25) (.tmp 27)), none⟩, ⟨(some 29), (.mv (.tmp 0)), none⟩, ⟨(some 30), (.len (.tmp 29)), none⟩, ⟨(some 31), (.ar .add (.tmp 28) (.tmp 30)), none⟩, ⟨(some 32), (.mv (.tmp 0)), none⟩, ⟨(some 33), (.len (.tmp 32)), none⟩, ⟨(some 34), (.dv .rem (.tmp 31) (.tmp 33)), none⟩, ⟨(some 6), (.mv (.tmp 34)), none⟩])
    (.seq (.seq
    (.reg [⟨(some 35), (.mv (.tmp 5)), none⟩, ⟨(some 36), (.pnil false (.tmp 35)), none⟩])
    (.cond (.tmp 36)
    (.seq (.reg [⟨(some 4), (.mv (.const (.bool false))), none⟩]) .ret) .skip))
    (.seq (.reg [⟨(some 7), (.mv (.const (.bool true))), none⟩])
    (.seq (.seq
    (.reg [⟨(some 37), (.fad 0 (.tmp 3)), none⟩, ⟨(some 38), (.ld1 (.tmp 37)), none⟩, ⟨(some 39), (.bt .and (.tmp 38) (.const (.int .i64 3))), none⟩])
    (.block 0
    (.seq (.reg [⟨(some 53), (.cmp .eql (.tmp 39) (.const (.int .i64 0))), none⟩, ⟨(some 52), (.mv (.tmp 53)), none⟩])
    (.cond (.tmp 52)
    (.seq (.reg [⟨(some 7), (.mv (.const (.bool false))), none⟩])
    (.seq (.draw (.take ⟨(some 54), (.mv (.tmp 5)), none⟩ (.take ⟨(some 55), (.fad 1 (.tmp 3)), none⟩ (.take ⟨(some 56), (.ld1 (.tmp 55)), none⟩ (.take ⟨(some 57), (.mv (.tmp 6)), none⟩ (.take ⟨(some 59), (.mv (.tmp 0)), none⟩ (.take ⟨(some 60), (.mv (.tmp 6)), none⟩ (.take ⟨(some 61), (.iad 1 (.tmp 59) (.tmp 60)), none⟩ (.take ⟨(some 62), (.ld1 (.tmp 61)), none⟩ (.alt false ⟨(some 58), (.call 31 [(.tmp 54), (.tmp 56), (.tmp 57)]), none⟩ (.take ⟨(some 63), (.cmp .neq (.tmp 58) (.tmp 62)), none⟩ .done) .stop))))))))))
    (.cond (.tmp 63)
    (.seq (.reg [⟨(some 4), (.mv (.const (.bool false))), none⟩]) .ret) .skip)))
    (.seq (.reg [⟨(some 65), (.cmp .eql (.tmp 39) (.const (.int .i64 1))), none⟩, ⟨(some 64), (.mv (.tmp 65)), none⟩])
    (.cond (.tmp 64)
    (.reg [⟨(some 66), (.mv (.tmp 5)), none⟩, ⟨(some 67), (.fad 1 (.tmp 3)), none⟩, ⟨(some 68), (.ld1 (.tmp 67)), none⟩, ⟨(some 69), (.mv (.tmp 6)), none⟩, ⟨(some 70), (.fad 4 (.tmp 3)), none⟩, ⟨(some 71), (.ld1 (.tmp 70)), none⟩, ⟨(some 72), (.call 38 [(.tmp 66), (.tmp 68), (.tmp 69), (.tmp 71)]), none⟩])
    (.seq (.reg [⟨(some 74), (.cmp .eql (.tmp 39) (.const (.int .i64 2))), none⟩, ⟨(some 73), (.mv (.tmp 74)), none⟩])
    (.cond (.tmp 73)
    (.seq (.reg [⟨(some 75), (.mv (.tmp 5)), none⟩, ⟨(some 76), (.fad 1 (.tmp 3)), none⟩, ⟨(some 77), (.ld1 (.tmp 76)), none⟩, ⟨(some 78), (.mv (.tmp 6)), none⟩, ⟨(some 79), (.fad 3 (.tmp 3)), none⟩, ⟨(some 80), (.ld1 (.tmp 79)), none⟩, ⟨(some 81), (.fad 4 (.tmp 3)), none⟩, ⟨(some 82), (.ld1 (.tmp 81)), none⟩, ⟨(some 83), (.call 32 [(.tmp 75), (.tmp 77), (.tmp 78), (.tmp 80), (.tmp 82)]), none⟩, ⟨(some 7), (.mv (.tmp 83)), none⟩])
    (.seq (.reg [⟨(some 84), (.mv (.tmp 7)), none⟩, ⟨(some 85), (.fad 3 (.tmp 3)), none⟩, ⟨(some 86), (.ld1 (.tmp 85)), none⟩, ⟨(some 87), (.mv (.tmp 0)), none⟩, ⟨(some 88), (.mv (.tmp 6)), none⟩, ⟨(some 89), (.iad 1 (.tmp 87) (.tmp 88)), none⟩, ⟨(some 90), (.ld1 (.tmp 89)), none⟩, ⟨(some 91), (.cmp .eql (.tmp 86) (.tmp 90)), none⟩, ⟨(some 92), (.beq true (.tmp 84) (.tmp 91)), none⟩])
    (.cond (.tmp 92)
    (.seq (.reg [⟨(some 4), (.mv (.const (.bool false))), none⟩]) .ret) .skip)))
    (.seq (.draw (.take ⟨(some 40), (.mv (.tmp 5)), none⟩ (.take ⟨(some 41), (.fad 1 (.tmp 3)), none⟩ (.take ⟨(some 42), (.ld1 (.tmp 41)), none⟩ (.take ⟨(some 43), (.mv (.tmp 6)), none⟩ (.take ⟨(some 44), (.fad 4 (.tmp 3)), none⟩ (.take ⟨(some 45), (.ld1 (.tmp 44)), none⟩ (.take ⟨(some 47), (.mv (.tmp 0)), none⟩ (.take ⟨(some 48), (.mv (.tmp 6)), none⟩ (.take ⟨(some 49), (.iad 1 (.tmp 47) (.tmp 48)), none⟩ (.take ⟨(some 50), (.ld1 (.tmp 49)), none⟩ (.alt false ⟨(some 46), (.call 30 [(.tmp 40), (.tmp 42), (.tmp 43), (.tmp 45)]), none⟩ (.take ⟨(some 51), (.cmp .neq (.tmp 46) (.tmp 50)), none⟩ .done) .stop))))))))))))
    (.cond (.tmp 51)
    (.seq (.reg [⟨(some 4), (.mv (.const (.bool false))), none⟩]) .ret) .skip))))))))))
    (.seq (.reg [⟨(some 93), (.mv (.tmp 0)), none⟩, ⟨(some 94), (.mv (.tmp 6)), none⟩, ⟨(some 95), (.iad 1 (.tmp 93) (.tmp 94)), none⟩, ⟨(some 96), (.ld1 (.tmp 95)), none⟩, ⟨(some 8), (.mv (.tmp 96)), none⟩])
    (.seq (.seq
    (.reg [⟨(some 97), (.mv (.tmp 7)), none⟩])
    (.cond (.tmp 97)
    (.seq (.reg [⟨(some 98), (.fad 4 (.tmp 3)), none⟩, ⟨(some 99), (.ld1 (.tmp 98)), none⟩, ⟨(some 8), (.mv (.tmp 99)), none⟩])
    (.seq (.reg [⟨(some 100), (.fad 0 (.tmp 3)), none⟩, ⟨(some 101), (.ld1 (.tmp 100)), none⟩, ⟨(some 102), (.bt .and (.tmp 101) (.const (.int .i64 3))), none⟩, ⟨(some 103), (.cmp .eql (.tmp 102) (.const (.int .i64 3))), none⟩])
    (.cond (.tmp 103)
    (.reg [⟨(some 104), (.mv (.tmp 0)), none⟩, ⟨(some 105), (.mv (.tmp 6)), none⟩, ⟨(some 106), (.iad 1 (.tmp 104) (.tmp 105)), none⟩, ⟨(some 107), (.ld1 (.tmp 106)), none⟩, ⟨(some 108), (.fad 4 (.tmp 3)), none⟩, ⟨(some 109), (.ld1 (.tmp 108)), none⟩, ⟨(some 110), (.ar .add (.tmp 107) (.tmp 109)), none⟩, ⟨(some 8), (.mv (.tmp 110)), none⟩]) .skip))) .skip))
    (.seq (.reg [⟨(some 111), (.mv (.tmp 5)), none⟩, ⟨(some 112), (.call 42 [(.tmp 111)]), none⟩, ⟨(some 9), (.mv (.tmp 112)), none⟩])
    (.seq (.seq
    (.reg [⟨(some 10), (.mv (.const (.int .i64 0))), none⟩])
    (.block 1
    (.loop (.seq
    (.seq (.reg [⟨(some 113), (.mv (.tmp 10)), none⟩, ⟨(some 114), (.mv (.tmp 0)), none⟩, ⟨(some 115), (.len (.tmp 114)), none⟩, ⟨(some 116), (.cmp .lss (.tmp 113) (.tmp 115)), none⟩])
    (.cond (.tmp 116) .skip (.exit 1)))
    (.seq (.block 2
    (.seq (.reg [⟨(some 119), (.mv (.tmp 10)), none⟩, ⟨(some 120), (.mv (.tmp 6)), none⟩, ⟨(some 121), (.cmp .neq (.tmp 119) (.tmp 120)), none⟩, ⟨(some 122), (.mv (.tmp 121)), none⟩, ⟨(some 123), (.mv (.tmp 9)), (some (122, true))⟩, ⟨(some 124), (.mv (.tmp 10)), (some (122, true))⟩, ⟨(some 125), (.iad 1 (.tmp 123) (.tmp 124)), (some (122, true))⟩, ⟨(some 126), (.ld1 (.tmp 125)), (some (122, true))⟩, ⟨(some 127), (.mv (.tmp 0)), (some (122, true))⟩, ⟨(some 128), (.mv (.tmp 10)), (some (122, true))⟩, ⟨(some 129), (.iad 1 (.tmp 127) (.tmp 128)), (some (122, true))⟩, ⟨(some 130), (.ld1 (.tmp 129)), (some (122, true))⟩, ⟨(some 131), (.cmp .neq (.tmp 126) (.tmp 130)), (some (122, true))⟩, ⟨(some 132), (.pick (.tmp 122) (.tmp 131) (.const (.bool false))), none⟩, ⟨(some 133), (.mv (.tmp 132)), none⟩, ⟨(some 134), (.mv (.tmp 10)), (some (133, false))⟩, ⟨(some 135), (.mv (.tmp 6)), (some (133, false))⟩, ⟨(some 136), (.cmp .eql (.tmp 134) (.tmp 135)), (some (133, false))⟩, ⟨(some 137), (.mv (.tmp 136)), (some (133, false))⟩, ⟨(some 138), (.mv (.tmp 9)), (some (137, true))⟩, ⟨(some 139), (.mv (.tmp 10)), (some (137, true))⟩, ⟨(some 140), (.iad 1 (.tmp 138) (.tmp 139)), (some (137, true))⟩, ⟨(some 141), (.ld1 (.tmp 140)), (some (137, true))⟩, ⟨(some 142), (.mv (.tmp 8)), (some (137, true))⟩, ⟨(some 143), (.cmp .neq (.tmp 141) (.tmp 142)), (some (137, true))⟩, ⟨(some 144), (.pick (.tmp 137) (.tmp 143) (.const (.bool false))), (some (133, false))⟩, ⟨(some 145), (.pick (.tmp 133) (.const (.bool true)) (.tmp 144)), none⟩])
    (.cond (.tmp 145)
    (.seq (.reg [⟨(some 4), (.mv (.const (.bool false))), none⟩]) .ret) .skip)))
    (.reg [⟨(some 117), (.mv (.tmp 10)), none⟩, ⟨(some 118), (.ar .add (.tmp 117) (.const (.int .i64 1))), none⟩, ⟨(some 10), (.mv (.tmp 118)), none⟩]))))))
    (.seq (.reg [⟨(some 146), (.mv (.tmp 5)), none⟩, ⟨(some 147), (.call 43 [(.tmp 146)]), none⟩, ⟨(some 11), (.alc 41 (.agg #[(.int .i64 0), (.int .i64 0), (.int .i64 0), (.int .u64 0), (.int .u64 0), (.bool false)])), none⟩, ⟨none, (.stn 6 (.tmp 11) (.tmp 147)), none⟩])
    (.seq (.draw (.take ⟨(some 148), (.mv (.tmp 9)), none⟩ (.take ⟨(some 149), (.len (.tmp 148)), none⟩ (.take ⟨(some 150), (.mv (.tmp 0)), none⟩ (.take ⟨(some 151), (.len (.tmp 150)), none⟩ (.take ⟨(some 152), (.cmp .eql (.tmp 149) (.tmp 151)), none⟩ (.take ⟨(some 153), (.mv (.tmp 152)), none⟩ (.take ⟨(some 154), (.mv (.tmp 5)), (some (153, true))⟩ (.alt false ⟨(some 155), (.call 34 [(.tmp 154)]), (some (153, true))⟩ (.take ⟨(some 156), (.cmp .eql (.tmp 155) (.const (.int .i64 1))), (some (153, true))⟩ (.take ⟨(some 157), (.pick (.tmp 153) (.tmp 156) (.const (.bool false))), none⟩ (.take ⟨(some 158), (.mv (.tmp 157)), none⟩ (.take ⟨(some 159), (.fad 2 (.tmp 11)), (some (158, true))⟩ (.take ⟨(some 160), (.ld1 (.tmp 159)), (some (158, true))⟩ (.take ⟨(some 161), (.mv (.tmp 6)), (some (158, true))⟩ (.take ⟨(some 162), (.cmp .eql (.tmp 160) (.tmp 161)), (some (158, true))⟩ (.take ⟨(some 163), (.pick (.tmp 158) (.tmp 162) (.const (.bool false))), none⟩ (.take ⟨(some 164), (.mv (.tmp 163)), none⟩ (.take ⟨(some 165), (.fad 0 (.tmp 11)), (some (164, true))⟩ (.take ⟨(some 166), (.ld1 (.tmp 165)), (some (164, true))⟩ (.take ⟨(some 167), (.fad 1 (.tmp 3)), (some (164, true))⟩ (.take ⟨(some 168), (.ld1 (.tmp 167)), (some (164, true))⟩ (.take ⟨(some 169), (.cmp .eql (.tmp 166) (.tmp 168)), (some (164, true))⟩ (.take ⟨(some 170), (.pick (.tmp 164) (.tmp 169) (.const (.bool false))), none⟩ (.take ⟨(some 171), (.mv (.tmp 170)), none⟩ (.take ⟨(some 172), (.fad 3 (.tmp 11)), (some (171, true))⟩ (.take ⟨(some 173), (.ld1 (.tmp 172)), (some (171, true))⟩ (.take ⟨(some 174), (.mv (.tmp 0)), (some (171, true))⟩ (.take ⟨(some 175), (.mv (.tmp 6)), (some (171, true))⟩ (.take ⟨(some 176), (.iad 1 (.tmp 174) (.tmp 175)), (some (171, true))⟩ (.take ⟨(some 177), (.ld1 (.tmp 176)), (some (171, true))⟩ (.take ⟨(some 178), (.cmp .eql (.tmp 173) (.tmp 177)), (some (171, true))⟩ (.take ⟨(some 179), (.pick (.tmp 171) (.tmp 178) (.const (.bool false))), none⟩ (.take ⟨(some 180), (.mv (.tmp 179)), none⟩ (.take ⟨(some 181), (.fad 1 (.tmp 11)), (some (180, true))⟩ (.take ⟨(some 182), (.ld1 (.tmp 181)), (some (180, true))⟩ (.take ⟨(some 183), (.fad 0 (.tmp 3)), (some (180, true))⟩ (.take ⟨(some 184), (.ld1 (.tmp 183)), (some (180, true))⟩ (.take ⟨(some 185), (.bt .and (.tmp 184) (.const (.int .i64 3))), (some (180, true))⟩ (.take ⟨(some 186), (.cmp .eql (.tmp 182) (.tmp 185)), (some (180, true))⟩ (.take ⟨(some 187), (.pick (.tmp 180) (.tmp 186) (.const (.bool false))), none⟩ (.take ⟨(some 4), (.mv (.tmp 187)), none⟩ .done))))))))))))))))))))))))))))))))) .stop))))))))) .ret))))))))))))))⟩ := by kernel_rfl

/-- allotment/allotmentlaw2.WordsKnown -/
theorem tr6 : trF Try.prog pures Try.f6 = some
  ⟨91, [(.t 0)],
    (.seq (.reg [⟨(some 0), (.mv (.const (.bool false))), none⟩])
    (.seq (.seq
    (.reg [⟨(some 10), (.call 28 []), none⟩, ⟨(some 11), (.nt (.tmp 10)), none⟩])
    (.cond (.tmp 11)
    (.seq (.reg [⟨(some 0), (.mv (.const (.bool false))), none⟩]) .ret) .skip))
    (.seq (.reg [⟨(some 12), (.call 29 [(.const (.int .i64 2))]), none⟩, ⟨(some 1), (.alc 24 (.pointer none)), none⟩, ⟨none, (.st1 (.tmp 1) (.tmp 12)), none⟩])
    (.seq (.reg [⟨(some 13), (.mkf (.func 44) [] [(.tmp 1)]), none⟩, ⟨(some 2), (.mv (.tmp 13)), none⟩])
    (.seq (.reg [⟨(some 14), (.mkf (.func 45) [] [(.tmp 1)]), none⟩, ⟨(some 3), (.mv (.tmp 14)), none⟩])
    (.seq (.reg [⟨(some 15), (.mkf (.func 46) [] [(.tmp 1)]), none⟩, ⟨(some 4), (.mv (.tmp 15)), none⟩])
    (.seq (.reg [⟨(some 16), (.mv (.tmp 2)), none⟩, ⟨(some 17), (.call 36 [(.tmp 16)]), none⟩, ⟨(some 18), (.mv (.tmp 3)), none⟩, ⟨(some 19), (.call 36 [(.tmp 18)]), none⟩, ⟨(some 20), (.mv (.tmp 4)), none⟩, ⟨(some 21), (.call 36 [(.tmp 20)]), none⟩, ⟨(some 22), (.call 36 [(.const .nilFunc)]), none⟩, ⟨(some 5), (.mv (.tmp 17)), none⟩, ⟨(some 6), (.mv (.tmp 19)), none⟩, ⟨(some 7), (.mv (.tmp 21)), none⟩, ⟨(some 8), (.mv (.tmp 22)), none⟩])
    (.seq (.reg [⟨(some 23), (.ld1 (.tmp 1)), none⟩, ⟨(some 24), (.call 43 [(.tmp 23)]), none⟩, ⟨(some 9), (.alc 41 (.agg #[(.int .i64 0), (.int .i64 0), (.int .i64 0), (.int .u64 0), (.int .u64 0), (.bool false)])), none⟩, ⟨none, (.stn 6 (.tmp 9) (.tmp 24)), none⟩])
    (.seq (.reg [⟨(some 25), (.mv (.tmp 5)), none⟩, ⟨(some 26), (.nt (.tmp 25)), none⟩, ⟨(some 27), (.mv (.tmp 26)), none⟩, ⟨(some 28), (.mv (.tmp 6)), (some (27, true))⟩, ⟨(some 29), (.nt (.tmp 28)), (some (27, true))⟩, ⟨(some 30), (.pick (.tmp 27) (.tmp 29) (.const (.bool false))), none⟩, ⟨(some 31), (.mv (.tmp 30)), none⟩, ⟨(some 32), (.mv (.tmp 7)), (some (31, true))⟩, ⟨(some 33), (.pick (.tmp 31) (.tmp 32) (.const (.bool false))), none⟩, ⟨(some 34), (.mv (.tmp 33)), none⟩, ⟨(some 35), (.mv (.tmp 8)), (some (34, true))⟩, ⟨(some 36), (.pick (.tmp 34) (.tmp 35) (.const (.bool false))), none⟩, ⟨(some 37), (.mv (.tmp 36)), none⟩, ⟨(some 38), (.ld1 (.tmp 1)), (some (37, true))⟩, ⟨(some 39), (.call 34 [(.tmp 38)]), (some (37, true))⟩, ⟨(some 40), (.cmp .eql (.tmp 39) (.const (.int .i64 1))), (some (37, true))⟩, ⟨(some 41), (.pick (.tmp 37) (.tmp 40) (.const (.bool false))), none⟩, ⟨(some 42), (.mv (.tmp 41)), none⟩, ⟨(some 43), (.fad 0 (.tmp 9)), (some (42, true))⟩, ⟨(some 44), (.ld1 (.tmp 43)), (some (42, true))⟩, ⟨(some 45), (.cmp .eql (.tmp 44) (.const (.int .i64 3))), (some (42, true))⟩, ⟨(some 46), (.pick (.tmp 42) (.tmp 45) (.const (.bool false))), none⟩, ⟨(some 47), (.mv (.tmp 46)), none⟩, ⟨(some 48), (.fad 1 (.tmp 9)), (some (47, true))⟩, ⟨(some 49), (.ld1 (.tmp 48)), (some (47, true))⟩, ⟨(some 50), (.cmp .eql (.tmp 49) (.const (.int .i64 1))), (some (47, true))⟩, ⟨(some 51), (.pick (.tmp 47) (.tmp 50) (.const (.bool false))), none⟩, ⟨(some 52), (.mv (.tmp 51)), none⟩, ⟨(some 53), (.fad 2 (.tmp 9)), (some (52, true))⟩, ⟨(some 54), (.ld1 (.tmp 53)), (some (52, true))⟩, ⟨(some 55), (.cmp .eql (.tmp 54) (.const (.int .i64 0))), (some (52, true))⟩, ⟨(some 56), (.pick (.tmp 52) (.tmp 55) (.const (.bool false))), none⟩, ⟨(some 57), (.mv (.tmp 56)), none⟩, ⟨(some 58), (.fad 3 (.tmp 9)), (some (57, true))⟩, ⟨(some 59), (.ld1 (.tmp 58)), (some (57, true))⟩, ⟨(some 60), (.cmp .eql (.tmp 59) (.const (.int .u64 0))), (some (57, true))⟩, ⟨(some 61), (.pick (.tmp 57) (.tmp 60) (.const (.bool false))), none⟩, ⟨(some 62), (.mv (.tmp 61)), none⟩, ⟨(some 63), (.fad 4 (.tmp 9)), (some (62, true))⟩, ⟨(some 64), (.ld1 (.tmp 63)), (some (62, true))⟩, ⟨(some 65), (.cmp .eql (.tmp 64) (.const (.int .u64 9))), (some (62, true))⟩, ⟨(some 66), (.pick (.tmp 62) (.tmp 65) (.const (.bool false))), none⟩, ⟨(some 67), (.mv (.tmp 66)), none⟩, ⟨(some 68), (.fad 5 (.tmp 9)), (some (67, true))⟩, ⟨(some 69), (.ld1 (.tmp 68)), (some (67, true))⟩, ⟨(some 70), (.pick (.tmp 67) (.tmp 69) (.const (.bool false))), none⟩, ⟨(some 71), (.mv (.tmp 70)), none⟩, ⟨(some 72), (.ld1 (.tmp 1)), (some (71, true))⟩, ⟨(some 73), (.call 33 [(.tmp 72), (.const (.int .i64 0))]), (some (71, true))⟩, ⟨(some 74), (.cmp .eql (.tmp 73) (.const (.int .u64 9))), (some (71, true))⟩, ⟨(some 75), (.pick (.tmp 71) (.tmp 74) (.const (.bool false))), none⟩, ⟨(some 76), (.mv (.tmp 75)), none⟩, ⟨(some 77), (.ld1 (.tmp 1)), (some (76, true))⟩, ⟨(some 78), (.call 33 [(.tmp 77), (.const (.int .i64 7))]), (some (76, true))⟩, ⟨(some 79), (.cmp .eql (.tmp 78) (.const (.int .u64 0))), (some (76, true))⟩, ⟨(some 80), (.pick (.tmp 76) (.tmp 79) (.const (.bool false))), none⟩, ⟨(some 81), (.mv (.tmp 80)), none⟩, ⟨(some 82), (.ld1 (.tmp 1)), (some (81, true))⟩, ⟨(some 83), (.call 47 [(.tmp 82), (.const (.int .i64 2)), (.const (.int .u64 1))]), (some (81, true))⟩, ⟨(some 84), (.nt (.tmp 83)), (some (81, true))⟩, ⟨(some 85), (.pick (.tmp 81) (.tmp 84) (.const (.bool false))), none⟩, ⟨(some 86), (.mv (.tmp 85)), none⟩, ⟨(some 87), (.call 29 [(.const (.int .i64 (-1)))]), (some (86, true))⟩, ⟨(some 88), (.call 48 [(.tmp 87)]), (some (86, true))⟩, ⟨(some 89), (.cmp .eql (.tmp 88) (.const (.int .i64 0))), (some (86, true))⟩, ⟨(some 90), (.pick (.tmp 86) (.tmp 89) (.const (.bool false))), none⟩, ⟨(some 0), (.mv (.tmp 90)), none⟩]) .ret)))))))))⟩ := by kernel_rfl

/-- allotment/allotmentlaw2.WordsPlays -/
theorem tr7 : trF Try.prog pures Try.f7 = some
  ⟨144, [(.t 4)],
    (.seq (.reg [⟨(some 4), (.mv (.const (.bool false))), none⟩])
    (.seq (.seq
    (.reg [⟨(some 11), (.call 28 []), none⟩, ⟨(some 12), (.nt (.tmp 11)), none⟩])
    (.cond (.tmp 12)
    (.seq (.reg [⟨(some 4), (.mv (.const (.bool false))), none⟩]) .ret) .skip))
    (.seq (.seq
    (.reg [⟨(some 13), (.mv (.tmp 0)), none⟩, ⟨(some 14), (.len (.tmp 13)), none⟩, ⟨(some 15), (.cmp .gtr (.tmp 14) (.const (.int .i64 100))), none⟩, ⟨(some 16), (.mv (.tmp 15)), none⟩, ⟨(some 17), (.mv (.tmp 1)), (some (16, false))⟩, ⟨(some 18), (.len (.tmp 17)), (some (16, false))⟩, ⟨(some 19), (.cmp .gtr (.tmp 18) (.const (.int .i64 60))), (some (16, false))⟩, ⟨(some 20), (.pick (.tmp 16) (.const (.bool true)) (.tmp 19)), none⟩])
    (.cond (.tmp 20)
    (.seq (.reg [⟨(some 4), (.mv (.const (.bool true))), none⟩]) .ret) .skip))
    (.seq (.reg [⟨(some 21), (.mv (.tmp 0)), none⟩, ⟨(some 22), (.call 41 [(.tmp 21)]), none⟩, ⟨(some 23), (.mv (.tmp 0)), none⟩, ⟨(some 24), (.call 49 [(.tmp 23)]), none⟩, ⟨(some 5), (.alc 24 (.pointer none)), none⟩, ⟨(some 6), (.alc 46 (.pointer none)), none⟩, ⟨none, (.st1 (.tmp 5) (.tmp 22)), none⟩, ⟨none, (.st1 (.tmp 6) (.tmp 24)), none⟩])
    (.seq (.seq
    (.reg [⟨(some 25), (.ld1 (.tmp 5)), none⟩, ⟨(some 26), (.pnil false (.tmp 25)), none⟩])
    (.cond (.tmp 26)
    (.seq (.reg [⟨(some 4), (.mv (.const (.bool false))), none⟩]) .ret) .skip))
    (.seq (.seq
    (.reg [⟨(some 7), (.mv (.const (.int .i64 0))), none⟩])
    (.block 0
    (.loop (.seq
    (.seq (.reg [⟨(some 27), (.mv (.tmp 7)), none⟩, ⟨(some 28), (.mv (.tmp 1)), none⟩, ⟨(some 29), (.len (.tmp 28)), none⟩, ⟨(some 30), (.cmp .lss (.tmp 27) (.tmp 29)), none⟩])
    (.cond (.tmp 30) .skip (.exit 0)))
    (.seq (.block 1
    (.seq (.reg [⟨(some 33), (.mv (.tmp 1)), none⟩, ⟨(some 34), (.mv (.tmp 7)), none⟩, ⟨(some 35), (.iad 5 (.tmp 33) (.tmp 34)), none⟩, ⟨(some 36), (.ldn 5 (.tmp 35)), none⟩, ⟨(some 8), (.alc 37 (.agg #[(.int .i64 0), (.int .i64 0), (.int .i64 0), (.int .u64 0), (.int .u64 0)])), none⟩, ⟨none, (.stn 5 (.tmp 8) (.tmp 36)), none⟩])
    (.seq (.reg [⟨(some 37), (.fad 2 (.tmp 8)), none⟩, ⟨(some 38), (.ld1 (.tmp 37)), none⟩, ⟨(some 39), (.cmp .geq (.tmp 38) (.const (.int .i64 0))), none⟩, ⟨(some 40), (.mv (.tmp 39)), none⟩, ⟨(some 41), (.fad 2 (.tmp 8)), (some (40, true))⟩, ⟨(some 42), (.ld1 (.tmp 41)), (some (40, true))⟩, ⟨(some 43), (.mv (.tmp 0)), (some (40, true))⟩, ⟨(some 44), (.len (.tmp 43)), (some (40, true))⟩, ⟨(some 45), (.cmp .lss (.tmp 42) (.tmp 44)), (some (40, true))⟩, ⟨(some 46), (.pick (.tmp 40) (.tmp 45) (.const (.bool false))), none⟩, ⟨(some 9), (.alc 4 (.bool false)), none⟩, ⟨none, (.st1 (.tmp 9) (.tmp 46)), none⟩])
    (.seq (.seq
    (.reg [⟨(some 47), (.fad 0 (.tmp 8)), none⟩, ⟨(some 48), (.ld1 (.tmp 47)), none⟩, ⟨(some 49), (.cmp .gtr (.tmp 48) (.const (.int .i64 5))), none⟩])
    (.cond (.tmp 49)
    (.seq (.seq
    (.draw (.take ⟨(some 50), (.fad 0 (.tmp 8)), none⟩ (.take ⟨(some 51), (.ld1 (.tmp 50)), none⟩ (.take ⟨(some 52), (.cmp .eql (.tmp 51) (.const (.int .i64 6))), none⟩ (.take ⟨(some 53), (.mv (.tmp 52)), none⟩ (.take ⟨(some 54), (.ld1 (.tmp 5)), (some (53, true))⟩ (.take ⟨(some 55), (.fad 2 (.tmp 8)), (some (53, true))⟩ (.take ⟨(some 56), (.ld1 (.tmp 55)), (some (53, true))⟩ (.take ⟨(some 57), (.fad 4 (.tmp 8)), (some (53, true))⟩ (.take ⟨(some 58), (.ld1 (.tmp 57)), (some (53, true))⟩ (.take ⟨(some 60), (.ld1 (.tmp 9)), (some (53, true))⟩ (.alt false ⟨(some 59), (.call 47 [(.tmp 54), (.tmp 56), (.tmp 58)]), (some (53, true))⟩ (.take ⟨(some 61), (.beq true (.tmp 59) (.tmp 60)), (some (53, true))⟩ (.take ⟨(some 62), (.pick (.tmp 53) (.tmp 61) (.const (.bool false))), none⟩ .done)) .stop))))))))))))
    (.cond (.tmp 62)
    (.seq (.reg [⟨(some 4), (.mv (.const (.bool false))), none⟩]) .ret) .skip))
    (.seq (.seq
    (.reg [⟨(some 63), (.fad 0 (.tmp 8)), none⟩, ⟨(some 64), (.ld1 (.tmp 63)), none⟩, ⟨(some 65), (.cmp .eql (.tmp 64) (.const (.int .i64 6))), none⟩, ⟨(some 66), (.mv (.tmp 65)), none⟩, ⟨(some 67), (.ld1 (.tmp 9)), (some (66, true))⟩, ⟨(some 68), (.pick (.tmp 66) (.tmp 67) (.const (.bool false))), none⟩])
    (.cond (.tmp 68)
    (.draw (.take ⟨(some 69), (.ld1 (.tmp 6)), none⟩ (.take ⟨(some 70), (.nilck (.tmp 69)), none⟩ (.take ⟨(some 71), (.fad 0 (.tmp 70)), none⟩ (.take ⟨(some 72), (.ld1 (.tmp 71)), none⟩ (.take ⟨(some 73), (.fad 2 (.tmp 8)), none⟩ (.take ⟨(some 74), (.ld1 (.tmp 73)), none⟩ (.take ⟨(some 75), (.fad 4 (.tmp 8)), none⟩ (.take ⟨(some 76), (.ld1 (.tmp 75)), none⟩ (.take ⟨(some 77), (.iad 1 (.tmp 72) (.tmp 74)), none⟩ (.alt true ⟨none, (.st1 (.tmp 77) (.tmp 76)), none⟩ .done .stop))))))))))) .skip))
    (.seq (.seq
    (.draw (.take ⟨(some 78), (.ld1 (.tmp 9)), none⟩ (.take ⟨(some 79), (.mv (.tmp 78)), none⟩ (.take ⟨(some 80), (.ld1 (.tmp 5)), (some (79, true))⟩ (.take ⟨(some 81), (.fad 2 (.tmp 8)), (some (79, true))⟩ (.take ⟨(some 82), (.ld1 (.tmp 81)), (some (79, true))⟩ (.take ⟨(some 84), (.ld1 (.tmp 6)), (some (79, true))⟩ (.take ⟨(some 85), (.nilck (.tmp 84)), (some (79, true))⟩ (.take ⟨(some 86), (.fad 0 (.tmp 85)), (some (79, true))⟩ (.take ⟨(some 87), (.ld1 (.tmp 86)), (some (79, true))⟩ (.take ⟨(some 88), (.fad 2 (.tmp 8)), (some (79, true))⟩ (.take ⟨(some 89), (.ld1 (.tmp 88)), (some (79, true))⟩ (.take ⟨(some 90), (.iad 1 (.tmp 87) (.tmp 89)), (some (79, true))⟩ (.take ⟨(some 91), (.ld1 (.tmp 90)), (some (79, true))⟩ (.alt false ⟨(some 83), (.call 33 [(.tmp 80), (.tmp 82)]), (some (79, true))⟩ (.take ⟨(some 92), (.cmp .neq (.tmp 83) (.tmp 91)), (some (79, true))⟩ (.take ⟨(some 93), (.pick (.tmp 79) (.tmp 92) (.const (.bool false))), none⟩ (.take ⟨(some 94), (.mv (.tmp 93)), none⟩ (.take ⟨(some 95), (.ld1 (.tmp 9)), (some (94, false))⟩ (.take ⟨(some 96), (.nt (.tmp 95)), (some (94, false))⟩ (.take ⟨(some 97), (.mv (.tmp 96)), (some (94, false))⟩ (.take ⟨(some 98), (.ld1 (.tmp 5)), (some (97, true))⟩ (.take ⟨(some 99), (.fad 2 (.tmp 8)), (some (97, true))⟩ (.take ⟨(some 100), (.ld1 (.tmp 99)), (some (97, true))⟩ (.alt false ⟨(some 101), (.call 33 [(.tmp 98), (.tmp 100)]), (some (97, true))⟩ (.take ⟨(some 102), (.cmp .neq (.tmp 101) (.const (.int .u64 0))), (some (97, true))⟩ (.take ⟨(some 103), (.pick (.tmp 97) (.tmp 102) (.const (.bool false))), (some (94, false))⟩ (.take ⟨(some 104), (.pick (.tmp 94) (.const (.bool true)) (.tmp 103)), none⟩ .done))) .stop)))))))))) .stop)))))))))))))))
    (.cond (.tmp 104)
    (.seq (.reg [⟨(some 4), (.mv (.const (.bool false))), none⟩]) .ret) .skip)) (.exit 1)))) .skip))
    (.seq (.reg [⟨(some 10), (.alc 4 (.bool false)), none⟩, ⟨none, (.st1 (.tmp 10) (.const (.bool true))), none⟩])
    (.seq (.draw (.take ⟨(some 105), (.mkf (.func 50) [] [(.tmp 5), (.tmp 6), (.tmp 8), (.tmp 9), (.tmp 10)]), none⟩ (.take ⟨(some 107), (.ld1 (.tmp 9)), none⟩ (.alt false ⟨(some 106), (.call 36 [(.tmp 105)]), none⟩ (.take ⟨(some 108), (.beq true (.tmp 106) (.tmp 107)), none⟩ (.take ⟨(some 109), (.mv (.tmp 108)), none⟩ (.take ⟨(some 110), (.ld1 (.tmp 9)), (some (109, false))⟩ (.take ⟨(some 111), (.mv (.tmp 110)), (some (109, false))⟩ (.take ⟨(some 112), (.ld1 (.tmp 10)), (some (111, true))⟩ (.take ⟨(some 113), (.nt (.tmp 112)), (some (111, true))⟩ (.take ⟨(some 114), (.pick (.tmp 111) (.tmp 113) (.const (.bool false))), (some (109, false))⟩ (.take ⟨(some 115), (.pick (.tmp 109) (.const (.bool true)) (.tmp 114)), none⟩ (.take ⟨(some 116), (.mv (.tmp 115)), none⟩ (.take ⟨(some 117), (.ld1 (.tmp 5)), (some (116, false))⟩ (.take ⟨(some 119), (.ld1 (.tmp 6)), (some (116, false))⟩ (.take ⟨(some 120), (.nilck (.tmp 119)), (some (116, false))⟩ (.take ⟨(some 121), (.fad 1 (.tmp 120)), (some (116, false))⟩ (.take ⟨(some 122), (.ld1 (.tmp 121)), (some (116, false))⟩ (.alt false ⟨(some 118), (.call 34 [(.tmp 117)]), (some (116, false))⟩ (.take ⟨(some 123), (.cmp .neq (.tmp 118) (.tmp 122)), (some (116, false))⟩ (.take ⟨(some 124), (.pick (.tmp 116) (.const (.bool true)) (.tmp 123)), none⟩ (.take ⟨(some 125), (.mv (.tmp 124)), none⟩ (.take ⟨(some 126), (.ld1 (.tmp 5)), (some (125, false))⟩ (.take ⟨(some 128), (.ld1 (.tmp 6)), (some (125, false))⟩ (.take ⟨(some 129), (.nilck (.tmp 128)), (some (125, false))⟩ (.take ⟨(some 130), (.fad 2 (.tmp 129)), (some (125, false))⟩ (.take ⟨(some 131), (.ldn 6 (.tmp 130)), (some (125, false))⟩ (.alt false ⟨(some 127), (.call 43 [(.tmp 126)]), (some (125, false))⟩ (.take ⟨(some 132), (.aeq true [(0, false), (1, false), (2, false), (3, false), (4, false), (5, true)] (.tmp 127) (.tmp 131)), (some (125, false))⟩ (.take ⟨(some 133), (.pick (.tmp 125) (.const (.bool true)) (.tmp 132)), none⟩ (.take ⟨(some 134), (.mv (.tmp 133)), none⟩ (.take ⟨(some 135), (.ld1 (.tmp 5)), (some (134, false))⟩ (.take ⟨(some 137), (.ld1 (.tmp 6)), (some (134, false))⟩ (.take ⟨(some 138), (.nilck (.tmp 137)), (some (134, false))⟩ (.take ⟨(some 139), (.fad 0 (.tmp 138)), (some (134, false))⟩ (.take ⟨(some 140), (.ld1 (.tmp 139)), (some (134, false))⟩ (.alt false ⟨(some 136), (.call 42 [(.tmp 135)]), (some (134, false))⟩ (.alt false ⟨(some 141), (.call 52 [(.tmp 136), (.tmp 140)]), (some (134, false))⟩ (.take ⟨(some 142), (.nt (.tmp 141)), (some (134, false))⟩ (.take ⟨(some 143), (.pick (.tmp 134) (.const (.bool true)) (.tmp 142)), none⟩ .done)) .stop) .stop))))))))) .stop))))))))) .stop))))))))))))))) .stop))))
    (.cond (.tmp 143)
    (.seq (.reg [⟨(some 4), (.mv (.const (.bool false))), none⟩]) .ret) .skip)))))))
    (.reg [⟨(some 31), (.mv (.tmp 7)), none⟩, ⟨(some 32), (.ar .add (.tmp 31) (.const (.int .i64 1))), none⟩, ⟨(some 7), (.mv (.tmp 32)), none⟩]))))))
    (.seq (.reg [⟨(some 4), (.mv (.const (.bool true))), none⟩]) .ret)))))))⟩ := by kernel_rfl

/-- allotment/allotmentlaw10.PageTwo -/
theorem tr8 : trF Try.prog pures Try.f8 = some
  ⟨129, [(.t 6)],
    (.seq (.reg [⟨(some 4), (.box 54 (.tmp 1)), none⟩, ⟨(some 6), (.mv (.const (.bool false))), none⟩])
    (.seq (.seq
    (.reg [⟨(some 17), (.call 53 []), none⟩, ⟨(some 18), (.nt (.tmp 17)), none⟩])
    (.cond (.tmp 18)
    (.seq (.reg [⟨(some 6), (.mv (.const (.bool false))), none⟩]) .ret) .skip))
    (.seq (.reg [⟨(some 19), (.mv (.tmp 0)), none⟩, ⟨(some 20), (.cv .i64 (.tmp 19)), none⟩, ⟨(some 21), (.dv .rem (.tmp 20) (.const (.int .i64 6))), none⟩, ⟨(some 22), (.ar .add (.const (.int .i64 1)) (.tmp 21)), none⟩, ⟨(some 23), (.bld #[(.int .i64 0), (.int .i64 0), (.int .i64 0)] [(0, (1, (.tmp 22))), (1, (1, (.const (.int .i64 2))))]), none⟩, ⟨(some 7), (.alc 57 (.agg #[(.int .i64 0), (.int .i64 0), (.int .i64 0)])), none⟩, ⟨none, (.stn 3 (.tmp 7) (.tmp 23)), none⟩])
    (.seq (.reg [⟨(some 24), (.ldn 3 (.tmp 7)), none⟩, ⟨(some 25), (.pcall 54 [(.tmp 24)]), none⟩, ⟨(some 26), (.mks 26 8 (.int .u64 0) (.tmp 25) (.tmp 25)), none⟩, ⟨(some 27), (.call 41 [(.tmp 26)]), none⟩, ⟨(some 8), (.mv (.tmp 27)), none⟩])
    (.seq (.draw (.take ⟨(some 28), (.ldn 3 (.tmp 7)), none⟩ (.take ⟨(some 29), (.iadA 2 1 (.tmp 4) (.const (.int .i64 0))), none⟩ (.take ⟨(some 30), (.ld1 (.tmp 29)), none⟩ (.take ⟨(some 31), (.cv .i64 (.tmp 30)), none⟩ (.take ⟨(some 32), (.fad 0 (.tmp 7)), none⟩ (.take ⟨(some 33), (.ld1 (.tmp 32)), none⟩ (.take ⟨(some 34), (.dv .rem (.tmp 31) (.tmp 33)), none⟩ (.take ⟨(some 36), (.ldn 3 (.tmp 7)), none⟩ (.take ⟨(some 37), (.iadA 2 1 (.tmp 4) (.const (.int .i64 1))), none⟩ (.take ⟨(some 38), (.ld1 (.tmp 37)), none⟩ (.take ⟨(some 39), (.cv .i64 (.tmp 38)), none⟩ (.take ⟨(some 40), (.fad 0 (.tmp 7)), none⟩ (.take ⟨(some 41), (.ld1 (.tmp 40)), none⟩ (.take ⟨(some 42), (.dv .rem (.tmp 39) (.tmp 41)), none⟩ (.alt false ⟨(some 35), (.call 55 [(.tmp 28), (.const (.int .i64 0)), (.tmp 34)]), none⟩ (.alt false ⟨(some 43), (.call 55 [(.tmp 36), (.const (.int .i64 1)), (.tmp 42)]), none⟩ (.take ⟨(some 9), (.mv (.tmp 35)), none⟩ (.take ⟨(some 10), (.mv (.tmp 43)), none⟩ .done)) .stop) .stop))))))))))))))))
    (.seq (.seq
    (.reg [⟨(some 44), (.mv (.tmp 8)), none⟩, ⟨(some 45), (.pnil false (.tmp 44)), none⟩, ⟨(some 46), (.mv (.tmp 45)), none⟩, ⟨(some 47), (.mv (.tmp 9)), (some (46, false))⟩, ⟨(some 48), (.pnil false (.tmp 47)), (some (46, false))⟩, ⟨(some 49), (.pick (.tmp 46) (.const (.bool true)) (.tmp 48)), none⟩, ⟨(some 50), (.mv (.tmp 49)), none⟩, ⟨(some 51), (.mv (.tmp 10)), (some (50, false))⟩, ⟨(some 52), (.pnil false (.tmp 51)), (some (50, false))⟩, ⟨(some 53), (.pick (.tmp 50) (.const (.bool true)) (.tmp 52)), none⟩])
    (.cond (.tmp 53)
    (.seq (.reg [⟨(some 6), (.mv (.const (.bool false))), none⟩]) .ret) .skip))
    (.seq (.seq
    (.reg [⟨(some 11), (.mv (.const (.int .i64 0))), none⟩])
    (.block 0
    (.loop (.seq
    (.seq (.reg [⟨(some 54), (.mv (.tmp 11)), none⟩, ⟨(some 55), (.cmp .lss (.tmp 54) (.const (.int .i64 40))), none⟩])
    (.cond (.tmp 55) .skip (.exit 0)))
    (.seq (.block 1
    (.seq (.reg [⟨(some 58), (.mv (.tmp 11)), none⟩, ⟨(some 59), (.mv (.tmp 2)), none⟩, ⟨(some 60), (.len (.tmp 59)), none⟩, ⟨(some 61), (.cmp .lss (.tmp 58) (.tmp 60)), none⟩, ⟨(some 62), (.mv (.tmp 61)), none⟩, ⟨(some 63), (.mv (.tmp 2)), (some (62, true))⟩, ⟨(some 64), (.mv (.tmp 11)), (some (62, true))⟩, ⟨(some 65), (.iad 1 (.tmp 63) (.tmp 64)), (some (62, true))⟩, ⟨(some 66), (.ld1 (.tmp 65)), (some (62, true))⟩, ⟨(some 67), (.pick (.tmp 62) (.tmp 66) (.const (.bool false))), none⟩])
    (.cond (.tmp 67)
    (.reg [⟨(some 68), (.mv (.tmp 10)), none⟩, ⟨(some 69), (.mv (.tmp 8)), none⟩, ⟨(some 70), (.call 56 [(.tmp 68), (.tmp 69)]), none⟩])
    (.reg [⟨(some 71), (.mv (.tmp 9)), none⟩, ⟨(some 72), (.mv (.tmp 8)), none⟩, ⟨(some 73), (.call 56 [(.tmp 71), (.tmp 72)]), none⟩]))))
    (.reg [⟨(some 56), (.mv (.tmp 11)), none⟩, ⟨(some 57), (.ar .add (.tmp 56) (.const (.int .i64 1))), none⟩, ⟨(some 11), (.mv (.tmp 57)), none⟩]))))))
    (.seq (.seq
    (.reg [⟨(some 12), (.mv (.const (.int .i64 0))), none⟩])
    (.block 2
    (.loop (.seq
    (.seq (.reg [⟨(some 74), (.mv (.tmp 12)), none⟩, ⟨(some 75), (.cmp .lss (.tmp 74) (.const (.int .i64 20))), none⟩])
    (.cond (.tmp 75) .skip (.exit 2)))
    (.seq (.block 3
    (.seq (.reg [⟨(some 78), (.mv (.tmp 9)), none⟩, ⟨(some 79), (.mv (.tmp 8)), none⟩, ⟨(some 80), (.call 56 [(.tmp 78), (.tmp 79)]), none⟩])
    (.reg [⟨(some 81), (.mv (.tmp 10)), none⟩, ⟨(some 82), (.mv (.tmp 8)), none⟩, ⟨(some 83), (.call 56 [(.tmp 81), (.tmp 82)]), none⟩])))
    (.reg [⟨(some 76), (.mv (.tmp 12)), none⟩, ⟨(some 77), (.ar .add (.tmp 76) (.const (.int .i64 1))), none⟩, ⟨(some 12), (.mv (.tmp 77)), none⟩]))))))
    (.seq (.reg [⟨(some 85), (.mv (.tmp 9)), none⟩, ⟨(some 86), (.call 57 [(.tmp 85)]), none⟩, ⟨(some 84), (.mv (.tmp 86)), none⟩, ⟨(some 87), (.ext 0 (.tmp 84)), none⟩, ⟨(some 88), (.ext 1 (.tmp 84)), none⟩, ⟨(some 13), (.mv (.tmp 87)), none⟩, ⟨(some 14), (.mv (.tmp 88)), none⟩])
    (.seq (.reg [⟨(some 90), (.mv (.tmp 10)), none⟩, ⟨(some 91), (.call 57 [(.tmp 90)]), none⟩, ⟨(some 89), (.mv (.tmp 91)), none⟩, ⟨(some 92), (.ext 0 (.tmp 89)), none⟩, ⟨(some 93), (.ext 1 (.tmp 89)), none⟩, ⟨(some 15), (.mv (.tmp 92)), none⟩, ⟨(some 16), (.mv (.tmp 93)), none⟩])
    (.seq (.seq
    (.reg [⟨(some 94), (.mv (.tmp 9)), none⟩, ⟨(some 95), (.call 58 [(.tmp 94)]), none⟩, ⟨(some 96), (.nt (.tmp 95)), none⟩, ⟨(some 97), (.mv (.tmp 96)), none⟩, ⟨(some 98), (.mv (.tmp 10)), (some (97, false))⟩, ⟨(some 99), (.call 58 [(.tmp 98)]), (some (97, false))⟩, ⟨(some 100), (.nt (.tmp 99)), (some (97, false))⟩, ⟨(some 101), (.pick (.tmp 97) (.const (.bool true)) (.tmp 100)), none⟩, ⟨(some 102), (.mv (.tmp 101)), none⟩, ⟨(some 103), (.mv (.tmp 14)), (some (102, false))⟩, ⟨(some 104), (.nt (.tmp 103)), (some (102, false))⟩, ⟨(some 105), (.mv (.tmp 104)), (some (102, false))⟩, ⟨(some 106), (.mv (.tmp 16)), (some (105, true))⟩, ⟨(some 107), (.nt (.tmp 106)), (some (105, true))⟩, ⟨(some 108), (.pick (.tmp 105) (.tmp 107) (.const (.bool false))), (some (102, false))⟩, ⟨(some 109), (.pick (.tmp 102) (.const (.bool true)) (.tmp 108)), none⟩])
    (.cond (.tmp 109)
    (.seq (.reg [⟨(some 6), (.mv (.const (.bool false))), none⟩]) .ret) .skip))
    (.seq (.reg [⟨(some 110), (.mv (.tmp 14)), none⟩, ⟨(some 111), (.mv (.tmp 110)), none⟩, ⟨(some 112), (.mv (.tmp 16)), (some (111, true))⟩, ⟨(some 113), (.pick (.tmp 111) (.tmp 112) (.const (.bool false))), none⟩, ⟨(some 114), (.mv (.tmp 113)), none⟩, ⟨(some 115), (.mv (.tmp 13)), (some (114, true))⟩, ⟨(some 116), (.mv (.tmp 15)), (some (114, true))⟩, ⟨(some 117), (.cmp .neq (.tmp 115) (.tmp 116)), (some (114, true))⟩, ⟨(some 118), (.pick (.tmp 114) (.tmp 117) (.const (.bool false))), none⟩, ⟨(some 119), (.mv (.tmp 118)), none⟩, ⟨(some 120), (.fad 0 (.tmp 7)), (some (119, false))⟩, ⟨(some 121), (.ld1 (.tmp 120)), (some (119, false))⟩, ⟨(some 122), (.cmp .eql (.tmp 121) (.const (.int .i64 1))), (some (119, false))⟩, ⟨(some 123), (.mv (.tmp 122)), (some (119, false))⟩, ⟨(some 124), (.mv (.tmp 14)), (some (123, true))⟩, ⟨(some 125), (.mv (.tmp 16)), (some (123, true))⟩, ⟨(some 126), (.beq true (.tmp 124) (.tmp 125)), (some (123, true))⟩, ⟨(some 127), (.pick (.tmp 123) (.tmp 126) (.const (.bool false))), (some (119, false))⟩, ⟨(some 128), (.pick (.tmp 119) (.const (.bool true)) (.tmp 127)), none⟩, ⟨(some 6), (.mv (.tmp 128)), none⟩]) .ret))))))))))))⟩ := by kernel_rfl

/-- allotment/allotmentlaw10.PageMany -/
theorem tr9 : trF Try.prog pures Try.f9 = some
  ⟨183, [(.t 6)],
    (.seq (.reg [⟨(some 6), (.mv (.const (.bool false))), none⟩])
    (.seq (.seq
    (.reg [⟨(some 22), (.call 53 []), none⟩, ⟨(some 23), (.nt (.tmp 22)), none⟩])
    (.cond (.tmp 23)
    (.seq (.reg [⟨(some 6), (.mv (.const (.bool false))), none⟩]) .ret) .skip))
    (.seq (.reg [⟨(some 24), (.mv (.tmp 1)), none⟩, ⟨(some 25), (.len (.tmp 24)), none⟩, ⟨(some 7), (.mv (.tmp 25)), none⟩])
    (.seq (.seq
    (.reg [⟨(some 26), (.mv (.tmp 7)), none⟩, ⟨(some 27), (.cmp .eql (.tmp 26) (.const (.int .i64 0))), none⟩, ⟨(some 28), (.mv (.tmp 27)), none⟩, ⟨(some 29), (.mv (.tmp 7)), (some (28, false))⟩, ⟨(some 30), (.cmp .gtr (.tmp 29) (.const (.int .i64 10))), (some (28, false))⟩, ⟨(some 31), (.pick (.tmp 28) (.const (.bool true)) (.tmp 30)), none⟩, ⟨(some 32), (.mv (.tmp 31)), none⟩, ⟨(some 33), (.mv (.tmp 0)), (some (32, false))⟩, ⟨(some 34), (.len (.tmp 33)), (some (32, false))⟩, ⟨(some 35), (.cmp .eql (.tmp 34) (.const (.int .i64 0))), (some (32, false))⟩, ⟨(some 36), (.pick (.tmp 32) (.const (.bool true)) (.tmp 35)), none⟩, ⟨(some 37), (.mv (.tmp 36)), none⟩, ⟨(some 38), (.mv (.tmp 0)), (some (37, false))⟩, ⟨(some 39), (.len (.tmp 38)), (some (37, false))⟩, ⟨(some 40), (.cmp .gtr (.tmp 39) (.const (.int .i64 20))), (some (37, false))⟩, ⟨(some 41), (.pick (.tmp 37) (.const (.bool true)) (.tmp 40)), none⟩, ⟨(some 42), (.mv (.tmp 41)), none⟩, ⟨(some 43), (.mv (.tmp 2)), (some (42, false))⟩, ⟨(some 44), (.len (.tmp 43)), (some (42, false))⟩, ⟨(some 45), (.cmp .gtr (.tmp 44) (.const (.int .i64 1000))), (some (42, false))⟩, ⟨(some 46), (.pick (.tmp 42) (.const (.bool true)) (.tmp 45)), none⟩])
    (.cond (.tmp 46)
    (.seq (.reg [⟨(some 6), (.mv (.const (.bool true))), none⟩]) .ret) .skip))
    (.seq (.reg [⟨(some 47), (.mv (.tmp 0)), none⟩, ⟨(some 48), (.len (.tmp 47)), none⟩, ⟨(some 49), (.mv (.tmp 7)), none⟩, ⟨(some 50), (.bld #[(.int .i64 0), (.int .i64 0), (.int .i64 0)] [(0, (1, (.tmp 48))), (1, (1, (.tmp 49)))]), none⟩, ⟨(some 8), (.alc 57 (.agg #[(.int .i64 0), (.int .i64 0), (.int .i64 0)])), none⟩, ⟨none, (.stn 3 (.tmp 8) (.tmp 50)), none⟩])
    (.seq (.reg [⟨(some 51), (.ldn 3 (.tmp 8)), none⟩, ⟨(some 52), (.pcall 54 [(.tmp 51)]), none⟩, ⟨(some 53), (.mks 26 8 (.int .u64 0) (.tmp 52) (.tmp 52)), none⟩, ⟨(some 9), (.mv (.tmp 53)), none⟩])
    (.seq (.reg [⟨(some 10), (.mv (.const (.int .i64 0))), none⟩])
    (.seq (.seq
    (.reg [⟨(some 11), (.mv (.const (.int .i64 0))), none⟩])
    (.block 0
    (.loop (.seq
    (.seq (.reg [⟨(some 54), (.mv (.tmp 11)), none⟩, ⟨(some 55), (.fad 0 (.tmp 8)), none⟩, ⟨(some 56), (.ld1 (.tmp 55)), none⟩, ⟨(some 57), (.cmp .lss (.tmp 54) (.tmp 56)), none⟩])
    (.cond (.tmp 57) .skip (.exit 0)))
    (.seq (.block 1
    (.seq (.reg [⟨(some 60), (.mv (.tmp 0)), none⟩, ⟨(some 61), (.mv (.tmp 11)), none⟩, ⟨(some 62), (.iad 1 (.tmp 60) (.tmp 61)), none⟩, ⟨(some 63), (.ld1 (.tmp 62)), none⟩])
    (.cond (.tmp 63)
    (.reg [⟨(some 64), (.mv (.tmp 9)), none⟩, ⟨(some 65), (.ldn 3 (.tmp 8)), none⟩, ⟨(some 66), (.mv (.tmp 11)), none⟩, ⟨(some 67), (.pcall 60 [(.tmp 65), (.tmp 66)]), none⟩, ⟨(some 68), (.bld #[(.int .i64 0), (.int .i64 0), (.int .i64 0)] [(0, (1, (.const (.int .i64 3)))), (1, (1, (.const (.int .i64 1))))]), none⟩, ⟨(some 69), (.pcall 59 [(.tmp 68)]), none⟩, ⟨(some 70), (.iad 1 (.tmp 64) (.tmp 67)), none⟩, ⟨none, (.st1 (.tmp 70) (.tmp 69)), none⟩])
    (.reg [⟨(some 71), (.mv (.tmp 10)), none⟩, ⟨(some 72), (.ar .add (.tmp 71) (.const (.int .i64 1))), none⟩, ⟨(some 10), (.mv (.tmp 72)), none⟩]))))
    (.reg [⟨(some 58), (.mv (.tmp 11)), none⟩, ⟨(some 59), (.ar .add (.tmp 58) (.const (.int .i64 1))), none⟩, ⟨(some 11), (.mv (.tmp 59)), none⟩]))))))
    (.seq (.reg [⟨(some 73), (.mv (.tmp 9)), none⟩, ⟨(some 74), (.call 41 [(.tmp 73)]), none⟩, ⟨(some 12), (.mv (.tmp 74)), none⟩])
    (.seq (.seq
    (.reg [⟨(some 75), (.mv (.tmp 12)), none⟩, ⟨(some 76), (.pnil false (.tmp 75)), none⟩])
    (.cond (.tmp 76)
    (.seq (.reg [⟨(some 6), (.mv (.const (.bool false))), none⟩]) .ret) .skip))
    (.seq (.reg [⟨(some 13), (.mv (.const (.slice none 0 0))), none⟩])
    (.seq (.seq
    (.reg [⟨(some 14), (.mv (.const (.int .i64 0))), none⟩])
    (.block 2
    (.loop (.seq
    (.seq (.reg [⟨(some 77), (.mv (.tmp 14)), none⟩, ⟨(some 78), (.mv (.tmp 7)), none⟩, ⟨(some 79), (.cmp .lss (.tmp 77) (.tmp 78)), none⟩])
    (.cond (.tmp 79) .skip (.exit 2)))
    (.seq (.block 3
    (.draw (.take ⟨(some 82), (.mv (.tmp 13)), none⟩ (.take ⟨(some 83), (.ldn 3 (.tmp 8)), none⟩ (.take ⟨(some 84), (.mv (.tmp 14)), none⟩ (.take ⟨(some 85), (.mv (.tmp 1)), none⟩ (.take ⟨(some 86), (.mv (.tmp 14)), none⟩ (.take ⟨(some 87), (.iad 1 (.tmp 85) (.tmp 86)), none⟩ (.take ⟨(some 88), (.ld1 (.tmp 87)), none⟩ (.take ⟨(some 89), (.cv .i64 (.tmp 88)), none⟩ (.take ⟨(some 90), (.fad 0 (.tmp 8)), none⟩ (.take ⟨(some 91), (.ld1 (.tmp 90)), none⟩ (.take ⟨(some 92), (.dv .rem (.tmp 89) (.tmp 91)), none⟩ (.alt false ⟨(some 93), (.call 55 [(.tmp 83), (.tmp 84), (.tmp 92)]), none⟩ (.alt false ⟨(some 94), (.bsl 59 #[(.pointer none)] 1 1 [(0, (.tmp 93))]), none⟩ (.alt false ⟨(some 95), (.app 59 1 8 #[(.pointer none)] (.tmp 82) (.tmp 94)), none⟩ (.take ⟨(some 13), (.mv (.tmp 95)), none⟩ .done) .stop) .stop) .stop))))))))))))))
    (.reg [⟨(some 80), (.mv (.tmp 14)), none⟩, ⟨(some 81), (.ar .add (.tmp 80) (.const (.int .i64 1))), none⟩, ⟨(some 14), (.mv (.tmp 81)), none⟩]))))))
    (.seq (.seq
    (.reg [⟨(some 15), (.mv (.const (.int .i64 0))), none⟩])
    (.block 4
    (.loop (.seq
    (.seq (.reg [⟨(some 96), (.mv (.tmp 15)), none⟩, ⟨(some 97), (.mv (.tmp 2)), none⟩, ⟨(some 98), (.len (.tmp 97)), none⟩, ⟨(some 99), (.cmp .lss (.tmp 96) (.tmp 98)), none⟩])
    (.cond (.tmp 99) .skip (.exit 4)))
    (.seq (.block 5
    (.reg [⟨(some 102), (.mv (.tmp 13)), none⟩, ⟨(some 103), (.mv (.tmp 2)), none⟩, ⟨(some 104), (.mv (.tmp 15)), none⟩, ⟨(some 105), (.iad 1 (.tmp 103) (.tmp 104)), none⟩, ⟨(some 106), (.ld1 (.tmp 105)), none⟩, ⟨(some 107), (.cv .i64 (.tmp 106)), none⟩, ⟨(some 108), (.mv (.tmp 7)), none⟩, ⟨(some 109), (.dv .rem (.tmp 107) (.tmp 108)), none⟩, ⟨(some 110), (.iad 1 (.tmp 102) (.tmp 109)), none⟩, ⟨(some 111), (.ld1 (.tmp 110)), none⟩, ⟨(some 112), (.mv (.tmp 12)), none⟩, ⟨(some 113), (.call 56 [(.tmp 111), (.tmp 112)]), none⟩]))
    (.reg [⟨(some 100), (.mv (.tmp 15)), none⟩, ⟨(some 101), (.ar .add (.tmp 100) (.const (.int .i64 1))), none⟩, ⟨(some 15), (.mv (.tmp 101)), none⟩]))))))
    (.seq (.reg [⟨(some 114), (.fad 0 (.tmp 8)), none⟩, ⟨(some 115), (.ld1 (.tmp 114)), none⟩, ⟨(some 116), (.mks 4 1 (.bool false) (.tmp 115) (.tmp 115)), none⟩, ⟨(some 16), (.mv (.tmp 116)), none⟩])
    (.seq (.reg [⟨(some 17), (.mv (.const (.int .i64 0))), none⟩])
    (.seq (.seq
    (.reg [⟨(some 18), (.mv (.const (.int .i64 0))), none⟩])
    (.block 6
    (.loop (.seq
    (.seq (.reg [⟨(some 117), (.mv (.tmp 18)), none⟩, ⟨(some 118), (.mv (.tmp 7)), none⟩, ⟨(some 119), (.cmp .lss (.tmp 117) (.tmp 118)), none⟩])
    (.cond (.tmp 119) .skip (.exit 6)))
    (.seq (.block 7
    (.seq (.seq
    (.reg [⟨(some 19), (.mv (.const (.int .i64 0))), none⟩])
    (.block 8
    (.loop (.seq
    (.seq (.reg [⟨(some 122), (.mv (.tmp 19)), none⟩, ⟨(some 123), (.fad 0 (.tmp 8)), none⟩, ⟨(some 124), (.ld1 (.tmp 123)), none⟩, ⟨(some 125), (.ar .mul (.const (.int .i64 2)) (.tmp 124)), none⟩, ⟨(some 126), (.ar .add (.tmp 125) (.const (.int .i64 2))), none⟩, ⟨(some 127), (.cmp .lss (.tmp 122) (.tmp 126)), none⟩])
    (.cond (.tmp 127) .skip (.exit 8)))
    (.seq (.block 9
    (.reg [⟨(some 130), (.mv (.tmp 13)), none⟩, ⟨(some 131), (.mv (.tmp 18)), none⟩, ⟨(some 132), (.iad 1 (.tmp 130) (.tmp 131)), none⟩, ⟨(some 133), (.ld1 (.tmp 132)), none⟩, ⟨(some 134), (.mv (.tmp 12)), none⟩, ⟨(some 135), (.call 56 [(.tmp 133), (.tmp 134)]), none⟩]))
    (.reg [⟨(some 128), (.mv (.tmp 19)), none⟩, ⟨(some 129), (.ar .add (.tmp 128) (.const (.int .i64 1))), none⟩, ⟨(some 19), (.mv (.tmp 129)), none⟩]))))))
    (.seq (.reg [⟨(some 137), (.mv (.tmp 13)), none⟩, ⟨(some 138), (.mv (.tmp 18)), none⟩, ⟨(some 139), (.iad 1 (.tmp 137) (.tmp 138)), none⟩, ⟨(some 140), (.ld1 (.tmp 139)), none⟩, ⟨(some 141), (.call 57 [(.tmp 140)]), none⟩, ⟨(some 136), (.mv (.tmp 141)), none⟩, ⟨(some 142), (.ext 0 (.tmp 136)), none⟩, ⟨(some 143), (.ext 1 (.tmp 136)), none⟩, ⟨(some 20), (.mv (.tmp 142)), none⟩, ⟨(some 21), (.mv (.tmp 143)), none⟩])
    (.seq (.seq
    (.reg [⟨(some 144), (.mv (.tmp 13)), none⟩, ⟨(some 145), (.mv (.tmp 18)), none⟩, ⟨(some 146), (.iad 1 (.tmp 144) (.tmp 145)), none⟩, ⟨(some 147), (.ld1 (.tmp 146)), none⟩, ⟨(some 148), (.call 58 [(.tmp 147)]), none⟩, ⟨(some 149), (.nt (.tmp 148)), none⟩])
    (.cond (.tmp 149)
    (.seq (.reg [⟨(some 6), (.mv (.const (.bool false))), none⟩]) .ret) .skip))
    (.seq (.seq
    (.reg [⟨(some 150), (.mv (.tmp 21)), none⟩, ⟨(some 151), (.nt (.tmp 150)), none⟩])
    (.cond (.tmp 151) (.exit 7) .skip))
    (.seq (.seq
    (.reg [⟨(some 152), (.mv (.tmp 0)), none⟩, ⟨(some 153), (.mv (.tmp 20)), none⟩, ⟨(some 154), (.iad 1 (.tmp 152) (.tmp 153)), none⟩, ⟨(some 155), (.ld1 (.tmp 154)), none⟩, ⟨(some 156), (.mv (.tmp 155)), none⟩, ⟨(some 157), (.mv (.tmp 16)), (some (156, false))⟩, ⟨(some 158), (.mv (.tmp 20)), (some (156, false))⟩, ⟨(some 159), (.iad 1 (.tmp 157) (.tmp 158)), (some (156, false))⟩, ⟨(some 160), (.ld1 (.tmp 159)), (some (156, false))⟩, ⟨(some 161), (.pick (.tmp 156) (.const (.bool true)) (.tmp 160)), none⟩, ⟨(some 162), (.mv (.tmp 161)), none⟩, ⟨(some 163), (.mv (.tmp 12)), (some (162, false))⟩, ⟨(some 164), (.ldn 3 (.tmp 8)), (some (162, false))⟩, ⟨(some 165), (.mv (.tmp 20)), (some (162, false))⟩, ⟨(some 166), (.pcall 60 [(.tmp 164), (.tmp 165)]), (some (162, false))⟩, ⟨(some 167), (.call 33 [(.tmp 163), (.tmp 166)]), (some (162, false))⟩, ⟨(some 168), (.mv (.tmp 18)), (some (162, false))⟩, ⟨(some 169), (.bld #[(.int .i64 0), (.int .i64 0), (.int .i64 0)] [(0, (1, (.const (.int .i64 1)))), (1, (1, (.tmp 168)))]), (some (162, false))⟩, ⟨(some 170), (.pcall 59 [(.tmp 169)]), (some (162, false))⟩, ⟨(some 171), (.cmp .neq (.tmp 167) (.tmp 170)), (some (162, false))⟩, ⟨(some 172), (.pick (.tmp 162) (.const (.bool true)) (.tmp 171)), none⟩])
    (.cond (.tmp 172)
    (.seq (.reg [⟨(some 6), (.mv (.const (.bool false))), none⟩]) .ret) .skip))
    (.seq (.reg [⟨(some 173), (.mv (.tmp 16)), none⟩, ⟨(some 174), (.mv (.tmp 20)), none⟩, ⟨(some 175), (.iad 1 (.tmp 173) (.tmp 174)), none⟩, ⟨none, (.st1 (.tmp 175) (.const (.bool true))), none⟩])
    (.reg [⟨(some 176), (.mv (.tmp 17)), none⟩, ⟨(some 177), (.ar .add (.tmp 176) (.const (.int .i64 1))), none⟩, ⟨(some 17), (.mv (.tmp 177)), none⟩]))))))))
    (.reg [⟨(some 120), (.mv (.tmp 18)), none⟩, ⟨(some 121), (.ar .add (.tmp 120) (.const (.int .i64 1))), none⟩, ⟨(some 18), (.mv (.tmp 121)), none⟩]))))))
    (.seq (.reg [⟨(some 178), (.mv (.tmp 17)), none⟩, ⟨(some 179), (.mv (.tmp 10)), none⟩, ⟨(some 180), (.mv (.tmp 7)), none⟩, ⟨(some 181), (.mn (.tmp 179) (.tmp 180)), none⟩, ⟨(some 182), (.cmp .eql (.tmp 178) (.tmp 181)), none⟩, ⟨(some 6), (.mv (.tmp 182)), none⟩]) .ret)))))))))))))))))⟩ := by kernel_rfl

/-- allotment/allotmentlaw10.PageTurns -/
theorem tr10 : trF Try.prog pures Try.f10 = some
  ⟨147, [(.t 6)],
    (.seq (.reg [⟨(some 5), (.box 54 (.tmp 2)), none⟩, ⟨(some 6), (.mv (.const (.bool false))), none⟩])
    (.seq (.seq
    (.reg [⟨(some 22), (.call 53 []), none⟩, ⟨(some 23), (.nt (.tmp 22)), none⟩])
    (.cond (.tmp 23)
    (.seq (.reg [⟨(some 6), (.mv (.const (.bool false))), none⟩]) .ret) .skip))
    (.seq (.reg [⟨(some 24), (.mv (.tmp 0)), none⟩, ⟨(some 25), (.cv .i64 (.tmp 24)), none⟩, ⟨(some 26), (.dv .rem (.tmp 25) (.const (.int .i64 10))), none⟩, ⟨(some 27), (.ar .add (.const (.int .i64 1)) (.tmp 26)), none⟩, ⟨(some 28), (.bld #[(.int .i64 0), (.int .i64 0), (.int .i64 0)] [(0, (1, (.tmp 27))), (1, (1, (.const (.int .i64 2))))]), none⟩, ⟨(some 7), (.alc 57 (.agg #[(.int .i64 0), (.int .i64 0), (.int .i64 0)])), none⟩, ⟨none, (.stn 3 (.tmp 7) (.tmp 28)), none⟩])
    (.seq (.reg [⟨(some 29), (.ldn 3 (.tmp 7)), none⟩, ⟨(some 30), (.pcall 54 [(.tmp 29)]), none⟩, ⟨(some 31), (.mks 26 8 (.int .u64 0) (.tmp 30) (.tmp 30)), none⟩, ⟨(some 32), (.call 41 [(.tmp 31)]), none⟩, ⟨(some 8), (.mv (.tmp 32)), none⟩])
    (.seq (.seq
    (.reg [⟨(some 33), (.mv (.tmp 8)), none⟩, ⟨(some 34), (.pnil false (.tmp 33)), none⟩])
    (.cond (.tmp 34)
    (.seq (.reg [⟨(some 6), (.mv (.const (.bool false))), none⟩]) .ret) .skip))
    (.seq (.reg [⟨(some 35), (.iadA 2 1 (.tmp 5) (.const (.int .i64 1))), none⟩, ⟨(some 36), (.ld1 (.tmp 35)), none⟩, ⟨(some 37), (.cv .i64 (.tmp 36)), none⟩, ⟨(some 38), (.fad 0 (.tmp 7)), none⟩, ⟨(some 39), (.ld1 (.tmp 38)), none⟩, ⟨(some 40), (.dv .rem (.tmp 37) (.tmp 39)), none⟩, ⟨(some 9), (.mv (.tmp 40)), none⟩])
    (.seq (.reg [⟨(some 41), (.ldn 3 (.tmp 7)), none⟩, ⟨(some 42), (.mv (.tmp 9)), none⟩, ⟨(some 43), (.call 55 [(.tmp 41), (.const (.int .i64 1)), (.tmp 42)]), none⟩, ⟨(some 10), (.mv (.tmp 43)), none⟩])
    (.seq (.reg [⟨(some 44), (.mv (.tmp 1)), none⟩, ⟨(some 45), (.cv .i64 (.tmp 44)), none⟩, ⟨(some 46), (.fad 0 (.tmp 7)), none⟩, ⟨(some 47), (.ld1 (.tmp 46)), none⟩, ⟨(some 48), (.ar .add (.tmp 47) (.const (.int .i64 1))), none⟩, ⟨(some 49), (.dv .rem (.tmp 45) (.tmp 48)), none⟩, ⟨(some 11), (.mv (.tmp 49)), none⟩])
    (.seq (.reg [⟨(some 50), (.mv (.tmp 10)), none⟩, ⟨(some 51), (.mv (.tmp 8)), none⟩, ⟨(some 52), (.call 56 [(.tmp 50), (.tmp 51)]), none⟩])
    (.seq (.seq
    (.reg [⟨(some 12), (.mv (.const (.int .i64 0))), none⟩])
    (.block 0
    (.loop (.seq
    (.seq (.reg [⟨(some 53), (.mv (.tmp 12)), none⟩, ⟨(some 54), (.mv (.tmp 11)), none⟩, ⟨(some 55), (.cmp .lss (.tmp 53) (.tmp 54)), none⟩])
    (.cond (.tmp 55) .skip (.exit 0)))
    (.seq (.block 1
    (.seq (.draw (.take ⟨(some 58), (.ldn 3 (.tmp 7)), none⟩ (.take ⟨(some 59), (.iadA 2 1 (.tmp 5) (.const (.int .i64 0))), none⟩ (.take ⟨(some 60), (.ld1 (.tmp 59)), none⟩ (.take ⟨(some 61), (.cv .i64 (.tmp 60)), none⟩ (.take ⟨(some 62), (.fad 0 (.tmp 7)), none⟩ (.take ⟨(some 63), (.ld1 (.tmp 62)), none⟩ (.take ⟨(some 64), (.dv .rem (.tmp 61) (.tmp 63)), none⟩ (.alt false ⟨(some 65), (.call 55 [(.tmp 58), (.const (.int .i64 0)), (.tmp 64)]), none⟩ (.take ⟨(some 13), (.mv (.tmp 65)), none⟩ .done) .stop)))))))))
    (.seq (.seq
    (.reg [⟨(some 14), (.mv (.const (.int .i64 0))), none⟩])
    (.block 2
    (.loop (.seq
    (.seq (.reg [⟨(some 66), (.mv (.tmp 14)), none⟩, ⟨(some 67), (.fad 0 (.tmp 7)), none⟩, ⟨(some 68), (.ld1 (.tmp 67)), none⟩, ⟨(some 69), (.ar .mul (.const (.int .i64 2)) (.tmp 68)), none⟩, ⟨(some 70), (.ar .add (.tmp 69) (.const (.int .i64 2))), none⟩, ⟨(some 71), (.cmp .lss (.tmp 66) (.tmp 70)), none⟩])
    (.cond (.tmp 71) .skip (.exit 2)))
    (.seq (.block 3
    (.reg [⟨(some 74), (.mv (.tmp 13)), none⟩, ⟨(some 75), (.mv (.tmp 8)), none⟩, ⟨(some 76), (.call 56 [(.tmp 74), (.tmp 75)]), none⟩]))
    (.reg [⟨(some 72), (.mv (.tmp 14)), none⟩, ⟨(some 73), (.ar .add (.tmp 72) (.const (.int .i64 1))), none⟩, ⟨(some 14), (.mv (.tmp 73)), none⟩]))))))
    (.seq (.reg [⟨(some 78), (.mv (.tmp 13)), none⟩, ⟨(some 79), (.call 57 [(.tmp 78)]), none⟩, ⟨(some 77), (.mv (.tmp 79)), none⟩, ⟨(some 80), (.ext 0 (.tmp 77)), none⟩, ⟨(some 81), (.ext 1 (.tmp 77)), none⟩, ⟨(some 15), (.mv (.tmp 80)), none⟩, ⟨(some 16), (.mv (.tmp 81)), none⟩])
    (.seq (.reg [⟨(some 82), (.mv (.tmp 16)), none⟩, ⟨(some 83), (.nt (.tmp 82)), none⟩])
    (.cond (.tmp 83)
    (.seq (.reg [⟨(some 6), (.mv (.const (.bool false))), none⟩]) .ret) .skip))))))
    (.reg [⟨(some 56), (.mv (.tmp 12)), none⟩, ⟨(some 57), (.ar .add (.tmp 56) (.const (.int .i64 1))), none⟩, ⟨(some 12), (.mv (.tmp 57)), none⟩]))))))
    (.seq (.seq
    (.reg [⟨(some 17), (.mv (.const (.int .i64 0))), none⟩])
    (.block 4
    (.loop (.seq
    (.seq (.reg [⟨(some 84), (.mv (.tmp 17)), none⟩, ⟨(some 85), (.fad 0 (.tmp 7)), none⟩, ⟨(some 86), (.ld1 (.tmp 85)), none⟩, ⟨(some 87), (.ar .mul (.const (.int .i64 2)) (.tmp 86)), none⟩, ⟨(some 88), (.ar .add (.tmp 87) (.const (.int .i64 2))), none⟩, ⟨(some 89), (.cmp .lss (.tmp 84) (.tmp 88)), none⟩])
    (.cond (.tmp 89) .skip (.exit 4)))
    (.seq (.block 5
    (.reg [⟨(some 92), (.mv (.tmp 10)), none⟩, ⟨(some 93), (.mv (.tmp 8)), none⟩, ⟨(some 94), (.call 56 [(.tmp 92), (.tmp 93)]), none⟩]))
    (.reg [⟨(some 90), (.mv (.tmp 17)), none⟩, ⟨(some 91), (.ar .add (.tmp 90) (.const (.int .i64 1))), none⟩, ⟨(some 17), (.mv (.tmp 91)), none⟩]))))))
    (.seq (.reg [⟨(some 96), (.mv (.tmp 10)), none⟩, ⟨(some 97), (.call 57 [(.tmp 96)]), none⟩, ⟨(some 95), (.mv (.tmp 97)), none⟩, ⟨(some 98), (.ext 0 (.tmp 95)), none⟩, ⟨(some 99), (.ext 1 (.tmp 95)), none⟩, ⟨(some 18), (.mv (.tmp 98)), none⟩, ⟨(some 19), (.mv (.tmp 99)), none⟩])
    (.seq (.seq
    (.reg [⟨(some 100), (.mv (.tmp 10)), none⟩, ⟨(some 101), (.call 58 [(.tmp 100)]), none⟩, ⟨(some 102), (.nt (.tmp 101)), none⟩, ⟨(some 103), (.mv (.tmp 102)), none⟩, ⟨(some 104), (.mv (.tmp 19)), (some (103, false))⟩, ⟨(some 105), (.mv (.tmp 11)), (some (103, false))⟩, ⟨(some 106), (.fad 0 (.tmp 7)), (some (103, false))⟩, ⟨(some 107), (.ld1 (.tmp 106)), (some (103, false))⟩, ⟨(some 108), (.cmp .lss (.tmp 105) (.tmp 107)), (some (103, false))⟩, ⟨(some 109), (.beq true (.tmp 104) (.tmp 108)), (some (103, false))⟩, ⟨(some 110), (.pick (.tmp 103) (.const (.bool true)) (.tmp 109)), none⟩])
    (.cond (.tmp 110)
    (.seq (.reg [⟨(some 6), (.mv (.const (.bool false))), none⟩]) .ret) .skip))
    (.seq (.reg [⟨(some 111), (.mv (.tmp 9)), none⟩, ⟨(some 112), (.iadA 2 1 (.tmp 5) (.const (.int .i64 0))), none⟩, ⟨(some 113), (.ld1 (.tmp 112)), none⟩, ⟨(some 114), (.cv .i64 (.tmp 113)), none⟩, ⟨(some 115), (.fad 0 (.tmp 7)), none⟩, ⟨(some 116), (.ld1 (.tmp 115)), none⟩, ⟨(some 117), (.dv .rem (.tmp 114) (.tmp 116)), none⟩, ⟨(some 118), (.ar .sub (.tmp 111) (.tmp 117)), none⟩, ⟨(some 119), (.fad 0 (.tmp 7)), none⟩, ⟨(some 120), (.ld1 (.tmp 119)), none⟩, ⟨(some 121), (.ar .add (.tmp 118) (.tmp 120)), none⟩, ⟨(some 122), (.fad 0 (.tmp 7)), none⟩, ⟨(some 123), (.ld1 (.tmp 122)), none⟩, ⟨(some 124), (.dv .rem (.tmp 121) (.tmp 123)), none⟩, ⟨(some 20), (.mv (.tmp 124)), none⟩])
    (.seq (.reg [⟨(some 125), (.mv (.tmp 9)), none⟩, ⟨(some 21), (.mv (.tmp 125)), none⟩])
    (.seq (.seq
    (.reg [⟨(some 126), (.mv (.tmp 20)), none⟩, ⟨(some 127), (.mv (.tmp 11)), none⟩, ⟨(some 128), (.cmp .lss (.tmp 126) (.tmp 127)), none⟩])
    (.cond (.tmp 128)
    (.reg [⟨(some 129), (.iadA 2 1 (.tmp 5) (.const (.int .i64 0))), none⟩, ⟨(some 130), (.ld1 (.tmp 129)), none⟩, ⟨(some 131), (.cv .i64 (.tmp 130)), none⟩, ⟨(some 132), (.fad 0 (.tmp 7)), none⟩, ⟨(some 133), (.ld1 (.tmp 132)), none⟩, ⟨(some 134), (.dv .rem (.tmp 131) (.tmp 133)), none⟩, ⟨(some 135), (.mv (.tmp 11)), none⟩, ⟨(some 136), (.ar .add (.tmp 134) (.tmp 135)), none⟩, ⟨(some 137), (.fad 0 (.tmp 7)), none⟩, ⟨(some 138), (.ld1 (.tmp 137)), none⟩, ⟨(some 139), (.dv .rem (.tmp 136) (.tmp 138)), none⟩, ⟨(some 21), (.mv (.tmp 139)), none⟩]) .skip))
    (.seq (.reg [⟨(some 140), (.mv (.tmp 19)), none⟩, ⟨(some 141), (.nt (.tmp 140)), none⟩, ⟨(some 142), (.mv (.tmp 141)), none⟩, ⟨(some 143), (.mv (.tmp 18)), (some (142, false))⟩, ⟨(some 144), (.mv (.tmp 21)), (some (142, false))⟩, ⟨(some 145), (.cmp .eql (.tmp 143) (.tmp 144)), (some (142, false))⟩, ⟨(some 146), (.pick (.tmp 142) (.const (.bool true)) (.tmp 145)), none⟩, ⟨(some 6), (.mv (.tmp 146)), none⟩]) .ret)))))))))))))))))⟩ := by kernel_rfl

/-- allotment/allotmentlaw10.PageFirst -/
theorem tr11 : trF Try.prog pures Try.f11 = some
  ⟨145, [(.t 6)],
    (.seq (.reg [⟨(some 3), (.box 57 (.tmp 0)), none⟩, ⟨(some 5), (.box 73 (.tmp 2)), none⟩, ⟨(some 6), (.mv (.const (.bool false))), none⟩])
    (.seq (.seq
    (.reg [⟨(some 17), (.call 53 []), none⟩, ⟨(some 18), (.nt (.tmp 17)), none⟩])
    (.cond (.tmp 18)
    (.seq (.reg [⟨(some 6), (.mv (.const (.bool false))), none⟩]) .ret) .skip))
    (.seq (.seq
    (.reg [⟨(some 19), (.ldn 3 (.tmp 3)), none⟩, ⟨(some 20), (.mv (.tmp 1)), none⟩, ⟨(some 21), (.call 61 [(.tmp 19), (.tmp 20)]), none⟩, ⟨(some 22), (.nt (.tmp 21)), none⟩, ⟨(some 23), (.mv (.tmp 22)), none⟩, ⟨(some 24), (.ldn 3 (.tmp 3)), (some (23, false))⟩, ⟨(some 25), (.iadA 2 1 (.tmp 5) (.const (.int .i64 0))), (some (23, false))⟩, ⟨(some 26), (.ld1 (.tmp 25)), (some (23, false))⟩, ⟨(some 27), (.pcall 62 [(.tmp 24), (.tmp 26)]), (some (23, false))⟩, ⟨(some 28), (.cmp .lss (.tmp 27) (.const (.int .i64 0))), (some (23, false))⟩, ⟨(some 29), (.pick (.tmp 23) (.const (.bool true)) (.tmp 28)), none⟩, ⟨(some 30), (.mv (.tmp 29)), none⟩, ⟨(some 31), (.ldn 3 (.tmp 3)), (some (30, false))⟩, ⟨(some 32), (.iadA 2 1 (.tmp 5) (.const (.int .i64 1))), (some (30, false))⟩, ⟨(some 33), (.ld1 (.tmp 32)), (some (30, false))⟩, ⟨(some 34), (.pcall 60 [(.tmp 31), (.tmp 33)]), (some (30, false))⟩, ⟨(some 35), (.cmp .lss (.tmp 34) (.const (.int .i64 0))), (some (30, false))⟩, ⟨(some 36), (.pick (.tmp 30) (.const (.bool true)) (.tmp 35)), none⟩])
    (.cond (.tmp 36)
    (.seq (.reg [⟨(some 6), (.mv (.const (.bool true))), none⟩]) .ret) .skip))
    (.seq (.reg [⟨(some 37), (.mv (.tmp 1)), none⟩, ⟨(some 38), (.call 41 [(.tmp 37)]), none⟩, ⟨(some 7), (.mv (.tmp 38)), none⟩])
    (.seq (.reg [⟨(some 39), (.ldn 3 (.tmp 3)), none⟩, ⟨(some 40), (.iadA 2 1 (.tmp 5) (.const (.int .i64 0))), none⟩, ⟨(some 41), (.ld1 (.tmp 40)), none⟩, ⟨(some 42), (.iadA 2 1 (.tmp 5) (.const (.int .i64 1))), none⟩, ⟨(some 43), (.ld1 (.tmp 42)), none⟩, ⟨(some 44), (.call 55 [(.tmp 39), (.tmp 41), (.tmp 43)]), none⟩, ⟨(some 8), (.mv (.tmp 44)), none⟩])
    (.seq (.seq
    (.reg [⟨(some 45), (.mv (.tmp 7)), none⟩, ⟨(some 46), (.pnil false (.tmp 45)), none⟩, ⟨(some 47), (.mv (.tmp 46)), none⟩, ⟨(some 48), (.mv (.tmp 8)), (some (47, false))⟩, ⟨(some 49), (.pnil false (.tmp 48)), (some (47, false))⟩, ⟨(some 50), (.pick (.tmp 47) (.const (.bool true)) (.tmp 49)), none⟩])
    (.cond (.tmp 50)
    (.seq (.reg [⟨(some 6), (.mv (.const (.bool false))), none⟩]) .ret) .skip))
    (.seq (.reg [⟨(some 9), (.mv (.const (.int .i64 (-1)))), none⟩])
    (.seq (.seq
    (.reg [⟨(some 51), (.fad 0 (.tmp 3)), none⟩, ⟨(some 52), (.ld1 (.tmp 51)), none⟩, ⟨(some 53), (.ar .sub (.tmp 52) (.const (.int .i64 1))), none⟩, ⟨(some 10), (.mv (.tmp 53)), none⟩])
    (.block 0
    (.loop (.seq
    (.seq (.reg [⟨(some 54), (.mv (.tmp 10)), none⟩, ⟨(some 55), (.cmp .geq (.tmp 54) (.const (.int .i64 0))), none⟩])
    (.cond (.tmp 55) .skip (.exit 0)))
    (.seq (.block 1
    (.seq (.reg [⟨(some 58), (.iadA 2 1 (.tmp 5) (.const (.int .i64 1))), none⟩, ⟨(some 59), (.ld1 (.tmp 58)), none⟩, ⟨(some 60), (.mv (.tmp 10)), none⟩, ⟨(some 61), (.ar .add (.tmp 59) (.tmp 60)), none⟩, ⟨(some 62), (.fad 0 (.tmp 3)), none⟩, ⟨(some 63), (.ld1 (.tmp 62)), none⟩, ⟨(some 64), (.dv .rem (.tmp 61) (.tmp 63)), none⟩, ⟨(some 11), (.mv (.tmp 64)), none⟩])
    (.seq (.reg [⟨(some 65), (.mv (.tmp 1)), none⟩, ⟨(some 66), (.ldn 3 (.tmp 3)), none⟩, ⟨(some 67), (.mv (.tmp 11)), none⟩, ⟨(some 68), (.pcall 60 [(.tmp 66), (.tmp 67)]), none⟩, ⟨(some 69), (.iad 1 (.tmp 65) (.tmp 68)), none⟩, ⟨(some 70), (.ld1 (.tmp 69)), none⟩, ⟨(some 71), (.cmp .eql (.tmp 70) (.const (.int .u64 0))), none⟩])
    (.cond (.tmp 71)
    (.reg [⟨(some 72), (.mv (.tmp 11)), none⟩, ⟨(some 9), (.mv (.tmp 72)), none⟩]) .skip))))
    (.reg [⟨(some 56), (.mv (.tmp 10)), none⟩, ⟨(some 57), (.ar .sub (.tmp 56) (.const (.int .i64 1))), none⟩, ⟨(some 10), (.mv (.tmp 57)), none⟩]))))))
    (.seq (.seq
    (.reg [⟨(some 12), (.mv (.const (.int .i64 0))), none⟩])
    (.block 2
    (.loop (.seq
    (.seq (.reg [⟨(some 73), (.mv (.tmp 12)), none⟩, ⟨(some 74), (.fad 0 (.tmp 3)), none⟩, ⟨(some 75), (.ld1 (.tmp 74)), none⟩, ⟨(some 76), (.ar .mul (.const (.int .i64 2)) (.tmp 75)), none⟩, ⟨(some 77), (.ar .add (.tmp 76) (.const (.int .i64 2))), none⟩, ⟨(some 78), (.cmp .lss (.tmp 73) (.tmp 77)), none⟩])
    (.cond (.tmp 78) .skip (.exit 2)))
    (.seq (.block 3
    (.reg [⟨(some 81), (.mv (.tmp 8)), none⟩, ⟨(some 82), (.mv (.tmp 7)), none⟩, ⟨(some 83), (.call 56 [(.tmp 81), (.tmp 82)]), none⟩]))
    (.reg [⟨(some 79), (.mv (.tmp 12)), none⟩, ⟨(some 80), (.ar .add (.tmp 79) (.const (.int .i64 1))), none⟩, ⟨(some 12), (.mv (.tmp 80)), none⟩]))))))
    (.seq (.reg [⟨(some 85), (.mv (.tmp 8)), none⟩, ⟨(some 86), (.call 57 [(.tmp 85)]), none⟩, ⟨(some 84), (.mv (.tmp 86)), none⟩, ⟨(some 87), (.ext 0 (.tmp 84)), none⟩, ⟨(some 88), (.ext 1 (.tmp 84)), none⟩, ⟨(some 13), (.mv (.tmp 87)), none⟩, ⟨(some 14), (.mv (.tmp 88)), none⟩])
    (.seq (.seq
    (.reg [⟨(some 89), (.mv (.tmp 8)), none⟩, ⟨(some 90), (.call 58 [(.tmp 89)]), none⟩, ⟨(some 91), (.nt (.tmp 90)), none⟩, ⟨(some 92), (.mv (.tmp 91)), none⟩, ⟨(some 93), (.mv (.tmp 14)), (some (92, false))⟩, ⟨(some 94), (.mv (.tmp 9)), (some (92, false))⟩, ⟨(some 95), (.cmp .geq (.tmp 94) (.const (.int .i64 0))), (some (92, false))⟩, ⟨(some 96), (.beq true (.tmp 93) (.tmp 95)), (some (92, false))⟩, ⟨(some 97), (.pick (.tmp 92) (.const (.bool true)) (.tmp 96)), none⟩, ⟨(some 98), (.mv (.tmp 97)), none⟩, ⟨(some 99), (.mv (.tmp 14)), (some (98, false))⟩, ⟨(some 100), (.mv (.tmp 99)), (some (98, false))⟩, ⟨(some 101), (.mv (.tmp 13)), (some (100, true))⟩, ⟨(some 102), (.mv (.tmp 9)), (some (100, true))⟩, ⟨(some 103), (.cmp .neq (.tmp 101) (.tmp 102)), (some (100, true))⟩, ⟨(some 104), (.pick (.tmp 100) (.tmp 103) (.const (.bool false))), (some (98, false))⟩, ⟨(some 105), (.pick (.tmp 98) (.const (.bool true)) (.tmp 104)), none⟩])
    (.cond (.tmp 105)
    (.seq (.reg [⟨(some 6), (.mv (.const (.bool false))), none⟩]) .ret) .skip))
    (.seq (.reg [⟨(some 106), (.mv (.tmp 7)), none⟩, ⟨(some 107), (.call 42 [(.tmp 106)]), none⟩, ⟨(some 15), (.mv (.tmp 107)), none⟩])
    (.seq (.seq
    (.reg [⟨(some 16), (.mv (.const (.int .i64 0))), none⟩])
    (.block 4
    (.loop (.seq
    (.seq (.reg [⟨(some 108), (.mv (.tmp 16)), none⟩, ⟨(some 109), (.mv (.tmp 1)), none⟩, ⟨(some 110), (.len (.tmp 109)), none⟩, ⟨(some 111), (.cmp .lss (.tmp 108) (.tmp 110)), none⟩])
    (.cond (.tmp 111) .skip (.exit 4)))
    (.seq (.block 5
    (.seq (.reg [⟨(some 114), (.mv (.tmp 15)), none⟩, ⟨(some 115), (.mv (.tmp 16)), none⟩, ⟨(some 116), (.iad 1 (.tmp 114) (.tmp 115)), none⟩, ⟨(some 117), (.ld1 (.tmp 116)), none⟩, ⟨(some 118), (.mv (.tmp 1)), none⟩, ⟨(some 119), (.mv (.tmp 16)), none⟩, ⟨(some 120), (.iad 1 (.tmp 118) (.tmp 119)), none⟩, ⟨(some 121), (.ld1 (.tmp 120)), none⟩, ⟨(some 122), (.cmp .neq (.tmp 117) (.tmp 121)), none⟩, ⟨(some 123), (.mv (.tmp 122)), none⟩, ⟨(some 124), (.mv (.tmp 14)), (some (123, true))⟩, ⟨(some 125), (.mv (.tmp 124)), (some (123, true))⟩, ⟨(some 126), (.mv (.tmp 16)), (some (125, true))⟩, ⟨(some 127), (.ldn 3 (.tmp 3)), (some (125, true))⟩, ⟨(some 128), (.mv (.tmp 9)), (some (125, true))⟩, ⟨(some 129), (.pcall 60 [(.tmp 127), (.tmp 128)]), (some (125, true))⟩, ⟨(some 130), (.cmp .eql (.tmp 126) (.tmp 129)), (some (125, true))⟩, ⟨(some 131), (.pick (.tmp 125) (.tmp 130) (.const (.bool false))), (some (123, true))⟩, ⟨(some 132), (.mv (.tmp 131)), (some (123, true))⟩, ⟨(some 133), (.mv (.tmp 15)), (some (132, true))⟩, ⟨(some 134), (.mv (.tmp 16)), (some (132, true))⟩, ⟨(some 135), (.iad 1 (.tmp 133) (.tmp 134)), (some (132, true))⟩, ⟨(some 136), (.ld1 (.tmp 135)), (some (132, true))⟩, ⟨(some 137), (.iadA 2 1 (.tmp 5) (.const (.int .i64 0))), (some (132, true))⟩, ⟨(some 138), (.ld1 (.tmp 137)), (some (132, true))⟩, ⟨(some 139), (.bld #[(.int .i64 0), (.int .i64 0), (.int .i64 0)] [(0, (1, (.const (.int .i64 1)))), (1, (1, (.tmp 138)))]), (some (132, true))⟩, ⟨(some 140), (.pcall 59 [(.tmp 139)]), (some (132, true))⟩, ⟨(some 141), (.cmp .eql (.tmp 136) (.tmp 140)), (some (132, true))⟩, ⟨(some 142), (.pick (.tmp 132) (.tmp 141) (.const (.bool false))), (some (123, true))⟩, ⟨(some 143), (.nt (.tmp 142)), (some (123, true))⟩, ⟨(some 144), (.pick (.tmp 123) (.tmp 143) (.const (.bool false))), none⟩])
    (.cond (.tmp 144)
    (.seq (.reg [⟨(some 6), (.mv (.const (.bool false))), none⟩]) .ret) .skip)))
    (.reg [⟨(some 112), (.mv (.tmp 16)), none⟩, ⟨(some 113), (.ar .add (.tmp 112) (.const (.int .i64 1))), none⟩, ⟨(some 16), (.mv (.tmp 113)), none⟩]))))))
    (.seq (.reg [⟨(some 6), (.mv (.const (.bool true))), none⟩]) .ret))))))))))))))⟩ := by kernel_rfl

/-- allotment/allotmentlaw10.PageClaims -/
theorem tr12 : trF Try.prog pures Try.f12 = some
  ⟨113, [(.t 6)],
    (.seq (.reg [⟨(some 3), (.box 57 (.tmp 0)), none⟩, ⟨(some 5), (.box 73 (.tmp 2)), none⟩, ⟨(some 6), (.mv (.const (.bool false))), none⟩])
    (.seq (.seq
    (.reg [⟨(some 14), (.call 53 []), none⟩, ⟨(some 15), (.nt (.tmp 14)), none⟩])
    (.cond (.tmp 15)
    (.seq (.reg [⟨(some 6), (.mv (.const (.bool false))), none⟩]) .ret) .skip))
    (.seq (.seq
    (.reg [⟨(some 16), (.ldn 3 (.tmp 3)), none⟩, ⟨(some 17), (.mv (.tmp 1)), none⟩, ⟨(some 18), (.call 61 [(.tmp 16), (.tmp 17)]), none⟩, ⟨(some 19), (.nt (.tmp 18)), none⟩])
    (.cond (.tmp 19)
    (.seq (.reg [⟨(some 6), (.mv (.const (.bool true))), none⟩]) .ret) .skip))
    (.seq (.reg [⟨(some 20), (.mv (.tmp 1)), none⟩, ⟨(some 21), (.call 41 [(.tmp 20)]), none⟩, ⟨(some 22), (.mv (.tmp 1)), none⟩, ⟨(some 23), (.call 49 [(.tmp 22)]), none⟩, ⟨(some 7), (.mv (.tmp 21)), none⟩, ⟨(some 8), (.mv (.tmp 23)), none⟩])
    (.seq (.draw (.take ⟨(some 24), (.ldn 3 (.tmp 3)), none⟩ (.take ⟨(some 25), (.iadA 2 1 (.tmp 5) (.const (.int .i64 0))), none⟩ (.take ⟨(some 26), (.ld1 (.tmp 25)), none⟩ (.take ⟨(some 27), (.iadA 2 1 (.tmp 5) (.const (.int .i64 1))), none⟩ (.take ⟨(some 28), (.ld1 (.tmp 27)), none⟩ (.take ⟨(some 30), (.ldn 3 (.tmp 3)), none⟩ (.take ⟨(some 31), (.iadA 2 1 (.tmp 5) (.const (.int .i64 0))), none⟩ (.take ⟨(some 32), (.ld1 (.tmp 31)), none⟩ (.take ⟨(some 33), (.iadA 2 1 (.tmp 5) (.const (.int .i64 1))), none⟩ (.take ⟨(some 34), (.ld1 (.tmp 33)), none⟩ (.alt false ⟨(some 29), (.call 55 [(.tmp 24), (.tmp 26), (.tmp 28)]), none⟩ (.alt false ⟨(some 35), (.call 63 [(.tmp 30), (.tmp 32), (.tmp 34)]), none⟩ (.take ⟨(some 9), (.mv (.tmp 29)), none⟩ (.take ⟨(some 10), (.mv (.tmp 35)), none⟩ .done)) .stop) .stop))))))))))))
    (.seq (.seq
    (.reg [⟨(some 36), (.mv (.tmp 7)), none⟩, ⟨(some 37), (.pnil false (.tmp 36)), none⟩, ⟨(some 38), (.mv (.tmp 37)), none⟩, ⟨(some 39), (.mv (.tmp 9)), (some (38, false))⟩, ⟨(some 40), (.pnil false (.tmp 39)), (some (38, false))⟩, ⟨(some 41), (.pick (.tmp 38) (.const (.bool true)) (.tmp 40)), none⟩])
    (.cond (.tmp 41)
    (.seq (.reg [⟨(some 6), (.mv (.const (.bool false))), none⟩]) .ret) .skip))
    (.seq (.seq
    (.reg [⟨(some 11), (.mv (.const (.int .i64 0))), none⟩])
    (.block 0
    (.loop (.seq
    (.seq (.reg [⟨(some 42), (.mv (.tmp 11)), none⟩, ⟨(some 43), (.fad 0 (.tmp 3)), none⟩, ⟨(some 44), (.ld1 (.tmp 43)), none⟩, ⟨(some 45), (.ar .mul (.const (.int .i64 2)) (.tmp 44)), none⟩, ⟨(some 46), (.ar .add (.tmp 45) (.const (.int .i64 2))), none⟩, ⟨(some 47), (.cmp .lss (.tmp 42) (.tmp 46)), none⟩])
    (.cond (.tmp 47) .skip (.exit 0)))
    (.seq (.block 1
    (.seq (.reg [⟨(some 51), (.mv (.tmp 9)), none⟩, ⟨(some 52), (.call 57 [(.tmp 51)]), none⟩, ⟨(some 50), (.mv (.tmp 52)), none⟩, ⟨(some 53), (.ext 0 (.tmp 50)), none⟩, ⟨(some 54), (.ext 1 (.tmp 50)), none⟩, ⟨(some 12), (.mv (.tmp 53)), none⟩, ⟨(some 13), (.mv (.tmp 54)), none⟩])
    (.seq (.seq
    (.reg [⟨(some 55), (.mv (.tmp 13)), none⟩, ⟨(some 56), (.mv (.tmp 10)), none⟩, ⟨(some 57), (.nilck (.tmp 56)), none⟩, ⟨(some 58), (.fad 7 (.tmp 57)), none⟩, ⟨(some 59), (.ld1 (.tmp 58)), none⟩, ⟨(some 60), (.beq true (.tmp 55) (.tmp 59)), none⟩, ⟨(some 61), (.mv (.tmp 60)), none⟩, ⟨(some 62), (.mv (.tmp 13)), (some (61, false))⟩, ⟨(some 63), (.mv (.tmp 62)), (some (61, false))⟩, ⟨(some 64), (.mv (.tmp 12)), (some (63, true))⟩, ⟨(some 65), (.mv (.tmp 10)), (some (63, true))⟩, ⟨(some 66), (.nilck (.tmp 65)), (some (63, true))⟩, ⟨(some 67), (.fad 6 (.tmp 66)), (some (63, true))⟩, ⟨(some 68), (.ld1 (.tmp 67)), (some (63, true))⟩, ⟨(some 69), (.cmp .neq (.tmp 64) (.tmp 68)), (some (63, true))⟩, ⟨(some 70), (.pick (.tmp 63) (.tmp 69) (.const (.bool false))), (some (61, false))⟩, ⟨(some 71), (.pick (.tmp 61) (.const (.bool true)) (.tmp 70)), none⟩, ⟨(some 72), (.mv (.tmp 71)), none⟩, ⟨(some 73), (.mv (.tmp 13)), (some (72, false))⟩, ⟨(some 74), (.nt (.tmp 73)), (some (72, false))⟩, ⟨(some 75), (.mv (.tmp 74)), (some (72, false))⟩, ⟨(some 76), (.mv (.tmp 12)), (some (75, true))⟩, ⟨(some 77), (.cmp .neq (.tmp 76) (.const (.int .i64 0))), (some (75, true))⟩, ⟨(some 78), (.pick (.tmp 75) (.tmp 77) (.const (.bool false))), (some (72, false))⟩, ⟨(some 79), (.pick (.tmp 72) (.const (.bool true)) (.tmp 78)), none⟩])
    (.cond (.tmp 79)
    (.seq (.reg [⟨(some 6), (.mv (.const (.bool false))), none⟩]) .ret) .skip))
    (.seq (.seq
    (.draw (.take ⟨(some 80), (.mv (.tmp 9)), none⟩ (.take ⟨(some 82), (.mv (.tmp 10)), none⟩ (.take ⟨(some 83), (.nilck (.tmp 82)), none⟩ (.take ⟨(some 84), (.fad 8 (.tmp 83)), none⟩ (.take ⟨(some 85), (.ld1 (.tmp 84)), none⟩ (.alt false ⟨(some 81), (.call 58 [(.tmp 80)]), none⟩ (.take ⟨(some 86), (.beq true (.tmp 81) (.tmp 85)), none⟩ .done) .stop)))))))
    (.cond (.tmp 86)
    (.seq (.reg [⟨(some 6), (.mv (.const (.bool false))), none⟩]) .ret) .skip))
    (.seq (.seq
    (.reg [⟨(some 87), (.mv (.tmp 9)), none⟩, ⟨(some 88), (.call 58 [(.tmp 87)]), none⟩])
    (.cond (.tmp 88) (.exit 0) .skip))
    (.seq (.reg [⟨(some 89), (.mv (.tmp 9)), none⟩, ⟨(some 90), (.mv (.tmp 7)), none⟩, ⟨(some 91), (.call 56 [(.tmp 89), (.tmp 90)]), none⟩])
    (.seq (.reg [⟨(some 92), (.mv (.tmp 10)), none⟩, ⟨(some 93), (.mv (.tmp 8)), none⟩, ⟨(some 94), (.call 64 [(.tmp 92), (.tmp 93)]), none⟩])
    (.seq (.reg [⟨(some 95), (.mv (.tmp 7)), none⟩, ⟨(some 96), (.mv (.tmp 8)), none⟩, ⟨(some 97), (.call 65 [(.tmp 95), (.tmp 96)]), none⟩, ⟨(some 98), (.nt (.tmp 97)), none⟩])
    (.cond (.tmp 98)
    (.seq (.reg [⟨(some 6), (.mv (.const (.bool false))), none⟩]) .ret) .skip)))))))))
    (.reg [⟨(some 48), (.mv (.tmp 11)), none⟩, ⟨(some 49), (.ar .add (.tmp 48) (.const (.int .i64 1))), none⟩, ⟨(some 11), (.mv (.tmp 49)), none⟩]))))))
    (.seq (.reg [⟨(some 99), (.mv (.tmp 9)), none⟩, ⟨(some 100), (.mv (.tmp 7)), none⟩, ⟨(some 101), (.call 56 [(.tmp 99), (.tmp 100)]), none⟩])
    (.seq (.draw (.take ⟨(some 102), (.mv (.tmp 9)), none⟩ (.alt false ⟨(some 103), (.call 58 [(.tmp 102)]), none⟩ (.take ⟨(some 104), (.mv (.tmp 103)), none⟩ (.take ⟨(some 105), (.mv (.tmp 7)), (some (104, true))⟩ (.take ⟨(some 107), (.mv (.tmp 8)), (some (104, true))⟩ (.take ⟨(some 108), (.nilck (.tmp 107)), (some (104, true))⟩ (.take ⟨(some 109), (.fad 1 (.tmp 108)), (some (104, true))⟩ (.take ⟨(some 110), (.ld1 (.tmp 109)), (some (104, true))⟩ (.alt false ⟨(some 106), (.call 34 [(.tmp 105)]), (some (104, true))⟩ (.take ⟨(some 111), (.cmp .eql (.tmp 106) (.tmp 110)), (some (104, true))⟩ (.take ⟨(some 112), (.pick (.tmp 104) (.tmp 111) (.const (.bool false))), none⟩ (.take ⟨(some 6), (.mv (.tmp 112)), none⟩ .done))) .stop))))))) .stop))) .ret)))))))))⟩ := by kernel_rfl

/-- allotment/allotmentlaw11.StripBack -/
theorem tr13 : trF Try.prog pures Try.f13 = some
  ⟨127, [(.t 4)],
    (.seq (.reg [⟨(some 4), (.mv (.const (.bool false))), none⟩])
    (.seq (.seq
    (.reg [⟨(some 18), (.call 66 []), none⟩, ⟨(some 19), (.nt (.tmp 18)), none⟩])
    (.cond (.tmp 19)
    (.seq (.reg [⟨(some 4), (.mv (.const (.bool false))), none⟩]) .ret) .skip))
    (.seq (.reg [⟨(some 20), (.mv (.tmp 0)), none⟩, ⟨(some 21), (.cv .i64 (.tmp 20)), none⟩, ⟨(some 22), (.dv .rem (.tmp 21) (.const (.int .i64 4))), none⟩, ⟨(some 5), (.mv (.tmp 22)), none⟩])
    (.seq (.reg [⟨(some 23), (.mv (.tmp 5)), none⟩, ⟨(some 24), (.pcall 67 [(.tmp 23)]), none⟩, ⟨(some 6), (.mv (.tmp 24)), none⟩])
    (.seq (.reg [⟨(some 7), (.mv (.const (.slice none 0 0))), none⟩])
    (.seq (.reg [⟨(some 25), (.mv (.tmp 6)), none⟩, ⟨(some 8), (.mv (.tmp 25)), none⟩])
    (.seq (.seq
    (.reg [⟨(some 9), (.mv (.const (.int .i64 0))), none⟩])
    (.block 0
    (.loop (.seq
    (.seq (.reg [⟨(some 26), (.mv (.tmp 9)), none⟩, ⟨(some 27), (.mv (.tmp 6)), none⟩, ⟨(some 28), (.cmp .lss (.tmp 26) (.tmp 27)), none⟩])
    (.cond (.tmp 28) .skip (.exit 0)))
    (.seq (.block 1
    (.seq (.reg [⟨(some 31), (.mv (.tmp 5)), none⟩, ⟨(some 32), (.call 68 [(.tmp 31)]), none⟩, ⟨(some 10), (.mv (.tmp 32)), none⟩])
    (.seq (.seq
    (.reg [⟨(some 33), (.mv (.tmp 1)), none⟩, ⟨(some 34), (.mv (.tmp 9)), none⟩, ⟨(some 35), (.cv .u64 (.tmp 34)), none⟩, ⟨(some 36), (.sh .shr (.tmp 33) (.tmp 35)), none⟩, ⟨(some 37), (.bt .and (.tmp 36) (.const (.int .u16 1))), none⟩, ⟨(some 38), (.cmp .eql (.tmp 37) (.const (.int .u16 0))), none⟩])
    (.cond (.tmp 38)
    (.seq (.reg [⟨(some 39), (.mv (.tmp 5)), none⟩, ⟨(some 40), (.bld #[(.int .i64 0), (.int .i64 0)] [(0, (1, (.const (.int .i64 3)))), (1, (1, (.tmp 39)))]), none⟩, ⟨(some 41), (.pcall 69 [(.tmp 40)]), none⟩, ⟨(some 10), (.mv (.tmp 41)), none⟩])
    (.reg [⟨(some 42), (.mv (.tmp 8)), none⟩, ⟨(some 43), (.mv (.tmp 9)), none⟩, ⟨(some 44), (.mn (.tmp 42) (.tmp 43)), none⟩, ⟨(some 8), (.mv (.tmp 44)), none⟩])) .skip))
    (.reg [⟨(some 45), (.mv (.tmp 7)), none⟩, ⟨(some 46), (.mv (.tmp 10)), none⟩, ⟨(some 47), (.bsl 26 #[(.int .u64 0)] 1 1 [(0, (.tmp 46))]), none⟩, ⟨(some 48), (.app 26 1 8 #[(.int .u64 0)] (.tmp 45) (.tmp 47)), none⟩, ⟨(some 7), (.mv (.tmp 48)), none⟩]))))
    (.reg [⟨(some 29), (.mv (.tmp 9)), none⟩, ⟨(some 30), (.ar .add (.tmp 29) (.const (.int .i64 1))), none⟩, ⟨(some 9), (.mv (.tmp 30)), none⟩]))))))
    (.seq (.reg [⟨(some 50), (.mv (.tmp 5)), none⟩, ⟨(some 51), (.mv (.tmp 7)), none⟩, ⟨(some 52), (.call 70 [(.tmp 50), (.tmp 51)]), none⟩, ⟨(some 49), (.mv (.tmp 52)), none⟩, ⟨(some 53), (.ext 0 (.tmp 49)), none⟩, ⟨(some 54), (.ext 1 (.tmp 49)), none⟩, ⟨(some 11), (.alc 57 (.agg #[(.int .i64 0), (.int .i64 0), (.int .i64 0)])), none⟩, ⟨none, (.stn 3 (.tmp 11) (.tmp 53)), none⟩, ⟨(some 12), (.mv (.tmp 54)), none⟩])
    (.seq (.reg [⟨(some 55), (.mv (.tmp 12)), none⟩, ⟨(some 56), (.call 41 [(.tmp 55)]), none⟩, ⟨(some 13), (.mv (.tmp 56)), none⟩])
    (.seq (.reg [⟨(some 57), (.ldn 3 (.tmp 11)), none⟩, ⟨(some 58), (.mv (.tmp 5)), none⟩, ⟨(some 59), (.call 71 [(.tmp 57), (.const (.int .i64 0)), (.const (.int .i64 0)), (.tmp 58)]), none⟩, ⟨(some 14), (.mv (.tmp 59)), none⟩])
    (.seq (.seq
    (.reg [⟨(some 60), (.mv (.tmp 13)), none⟩, ⟨(some 61), (.pnil false (.tmp 60)), none⟩, ⟨(some 62), (.mv (.tmp 61)), none⟩, ⟨(some 63), (.mv (.tmp 14)), (some (62, false))⟩, ⟨(some 64), (.pnil false (.tmp 63)), (some (62, false))⟩, ⟨(some 65), (.pick (.tmp 62) (.const (.bool true)) (.tmp 64)), none⟩])
    (.cond (.tmp 65)
    (.seq (.reg [⟨(some 4), (.mv (.const (.bool false))), none⟩]) .ret) .skip))
    (.seq (.reg [⟨(some 15), (.mv (.const (.int .i64 0))), none⟩])
    (.seq (.seq
    (.reg [⟨(some 16), (.mv (.const (.int .i64 0))), none⟩])
    (.block 2
    (.loop (.seq
    (.seq (.reg [⟨(some 66), (.mv (.tmp 16)), none⟩, ⟨(some 67), (.cmp .lss (.tmp 66) (.const (.int .i64 60))), none⟩, ⟨(some 68), (.mv (.tmp 67)), none⟩, ⟨(some 69), (.mv (.tmp 14)), (some (68, true))⟩, ⟨(some 70), (.call 72 [(.tmp 69)]), (some (68, true))⟩, ⟨(some 71), (.nt (.tmp 70)), (some (68, true))⟩, ⟨(some 72), (.pick (.tmp 68) (.tmp 71) (.const (.bool false))), none⟩])
    (.cond (.tmp 72) .skip (.exit 2)))
    (.seq (.block 3
    (.seq (.reg [⟨(some 75), (.mv (.tmp 14)), none⟩, ⟨(some 76), (.mv (.tmp 13)), none⟩, ⟨(some 77), (.call 73 [(.tmp 75), (.tmp 76)]), none⟩])
    (.reg [⟨(some 78), (.mv (.tmp 15)), none⟩, ⟨(some 79), (.ar .add (.tmp 78) (.const (.int .i64 1))), none⟩, ⟨(some 15), (.mv (.tmp 79)), none⟩])))
    (.reg [⟨(some 73), (.mv (.tmp 16)), none⟩, ⟨(some 74), (.ar .add (.tmp 73) (.const (.int .i64 1))), none⟩, ⟨(some 16), (.mv (.tmp 74)), none⟩]))))))
    (.seq (.seq
    (.reg [⟨(some 80), (.mv (.tmp 8)), none⟩, ⟨(some 81), (.mv (.tmp 6)), none⟩, ⟨(some 82), (.cmp .lss (.tmp 80) (.tmp 81)), none⟩])
    (.cond (.tmp 82)
    (.seq (.reg [⟨(some 83), (.mv (.tmp 14)), none⟩, ⟨(some 84), (.call 72 [(.tmp 83)]), none⟩, ⟨(some 85), (.mv (.tmp 84)), none⟩, ⟨(some 86), (.mv (.tmp 14)), (some (85, true))⟩, ⟨(some 87), (.call 74 [(.tmp 86)]), (some (85, true))⟩, ⟨(some 88), (.nt (.tmp 87)), (some (85, true))⟩, ⟨(some 89), (.pick (.tmp 85) (.tmp 88) (.const (.bool false))), none⟩, ⟨(some 90), (.mv (.tmp 89)), none⟩, ⟨(some 91), (.mv (.tmp 15)), (some (90, true))⟩, ⟨(some 92), (.mv (.tmp 8)), (some (90, true))⟩, ⟨(some 93), (.ar .mul (.const (.int .i64 2)) (.tmp 92)), (some (90, true))⟩, ⟨(some 94), (.ar .add (.tmp 93) (.const (.int .i64 1))), (some (90, true))⟩, ⟨(some 95), (.cmp .eql (.tmp 91) (.tmp 94)), (some (90, true))⟩, ⟨(some 96), (.pick (.tmp 90) (.tmp 95) (.const (.bool false))), none⟩, ⟨(some 97), (.mv (.tmp 96)), none⟩, ⟨(some 98), (.mv (.tmp 13)), (some (97, true))⟩, ⟨(some 99), (.call 42 [(.tmp 98)]), (some (97, true))⟩, ⟨(some 100), (.mv (.tmp 12)), (some (97, true))⟩, ⟨(some 101), (.call 52 [(.tmp 99), (.tmp 100)]), (some (97, true))⟩, ⟨(some 102), (.pick (.tmp 97) (.tmp 101) (.const (.bool false))), none⟩, ⟨(some 4), (.mv (.tmp 102)), none⟩]) .ret) .skip))
    (.seq (.seq
    (.reg [⟨(some 17), (.mv (.const (.int .i64 0))), none⟩])
    (.block 4
    (.loop (.seq
    (.seq (.reg [⟨(some 103), (.mv (.tmp 17)), none⟩, ⟨(some 104), (.mv (.tmp 6)), none⟩, ⟨(some 105), (.cmp .lss (.tmp 103) (.tmp 104)), none⟩])
    (.cond (.tmp 105) .skip (.exit 4)))
    (.seq (.block 5
    (.seq (.reg [⟨(some 108), (.mv (.tmp 13)), none⟩, ⟨(some 109), (.mv (.tmp 17)), none⟩, ⟨(some 110), (.ar .add (.const (.int .i64 3)) (.tmp 109)), none⟩, ⟨(some 111), (.call 33 [(.tmp 108), (.tmp 110)]), none⟩, ⟨(some 112), (.bld #[(.int .i64 0), (.int .i64 0)] [(0, (1, (.const (.int .i64 2))))]), none⟩, ⟨(some 113), (.pcall 69 [(.tmp 112)]), none⟩, ⟨(some 114), (.cmp .neq (.tmp 111) (.tmp 113)), none⟩])
    (.cond (.tmp 114)
    (.seq (.reg [⟨(some 4), (.mv (.const (.bool false))), none⟩]) .ret) .skip)))
    (.reg [⟨(some 106), (.mv (.tmp 17)), none⟩, ⟨(some 107), (.ar .add (.tmp 106) (.const (.int .i64 1))), none⟩, ⟨(some 17), (.mv (.tmp 107)), none⟩]))))))
    (.seq (.reg [⟨(some 115), (.mv (.tmp 14)), none⟩, ⟨(some 116), (.call 72 [(.tmp 115)]), none⟩, ⟨(some 117), (.mv (.tmp 116)), none⟩, ⟨(some 118), (.mv (.tmp 14)), (some (117, true))⟩, ⟨(some 119), (.call 74 [(.tmp 118)]), (some (117, true))⟩, ⟨(some 120), (.pick (.tmp 117) (.tmp 119) (.const (.bool false))), none⟩, ⟨(some 121), (.mv (.tmp 120)), none⟩, ⟨(some 122), (.mv (.tmp 15)), (some (121, true))⟩, ⟨(some 123), (.mv (.tmp 6)), (some (121, true))⟩, ⟨(some 124), (.ar .add (.tmp 123) (.const (.int .i64 1))), (some (121, true))⟩, ⟨(some 125), (.cmp .eql (.tmp 122) (.tmp 124)), (some (121, true))⟩, ⟨(some 126), (.pick (.tmp 121) (.tmp 125) (.const (.bool false))), none⟩, ⟨(some 4), (.mv (.tmp 126)), none⟩]) .ret))))))))))))))))⟩ := by kernel_rfl

/-- allotment/allotmentlaw11.StripMany -/
theorem tr14 : trF Try.prog pures Try.f14 = some
  ⟨142, [(.t 6)],
    (.seq (.reg [⟨(some 6), (.mv (.const (.bool false))), none⟩])
    (.seq (.seq
    (.reg [⟨(some 19), (.call 66 []), none⟩, ⟨(some 20), (.nt (.tmp 19)), none⟩])
    (.cond (.tmp 20)
    (.seq (.reg [⟨(some 6), (.mv (.const (.bool false))), none⟩]) .ret) .skip))
    (.seq (.reg [⟨(some 21), (.mv (.tmp 0)), none⟩, ⟨(some 22), (.cv .i64 (.tmp 21)), none⟩, ⟨(some 23), (.dv .rem (.tmp 22) (.const (.int .i64 4))), none⟩, ⟨(some 24), (.mv (.tmp 1)), none⟩, ⟨(some 25), (.cv .i64 (.tmp 24)), none⟩, ⟨(some 26), (.dv .rem (.tmp 25) (.const (.int .i64 10))), none⟩, ⟨(some 27), (.ar .add (.const (.int .i64 1)) (.tmp 26)), none⟩, ⟨(some 7), (.mv (.tmp 23)), none⟩, ⟨(some 8), (.mv (.tmp 27)), none⟩])
    (.seq (.reg [⟨(some 28), (.mv (.tmp 8)), none⟩, ⟨(some 29), (.bld #[(.int .i64 0), (.int .i64 0), (.int .i64 0)] [(0, (1, (.const (.int .i64 1)))), (1, (1, (.tmp 28)))]), none⟩, ⟨(some 9), (.alc 57 (.agg #[(.int .i64 0), (.int .i64 0), (.int .i64 0)])), none⟩, ⟨none, (.stn 3 (.tmp 9) (.tmp 29)), none⟩])
    (.seq (.reg [⟨(some 30), (.ldn 3 (.tmp 9)), none⟩, ⟨(some 31), (.pcall 54 [(.tmp 30)]), none⟩, ⟨(some 32), (.mks 26 8 (.int .u64 0) (.tmp 31) (.tmp 31)), none⟩, ⟨(some 10), (.mv (.tmp 32)), none⟩])
    (.seq (.reg [⟨(some 33), (.mv (.tmp 10)), none⟩, ⟨(some 34), (.mv (.tmp 8)), none⟩, ⟨(some 35), (.mv (.tmp 7)), none⟩, ⟨(some 36), (.bld #[(.int .i64 0), (.int .i64 0), (.int .i64 0)] [(0, (1, (.const (.int .i64 2)))), (1, (1, (.tmp 35)))]), none⟩, ⟨(some 37), (.pcall 59 [(.tmp 36)]), none⟩, ⟨(some 38), (.iad 1 (.tmp 33) (.tmp 34)), none⟩, ⟨none, (.st1 (.tmp 38) (.tmp 37)), none⟩])
    (.seq (.seq
    (.reg [⟨(some 11), (.mv (.const (.int .i64 0))), none⟩])
    (.block 0
    (.loop (.seq
    (.seq (.reg [⟨(some 39), (.mv (.tmp 11)), none⟩, ⟨(some 40), (.mv (.tmp 7)), none⟩, ⟨(some 41), (.pcall 67 [(.tmp 40)]), none⟩, ⟨(some 42), (.cmp .lss (.tmp 39) (.tmp 41)), none⟩])
    (.cond (.tmp 42) .skip (.exit 0)))
    (.seq (.block 1
    (.reg [⟨(some 45), (.mv (.tmp 10)), none⟩, ⟨(some 46), (.mv (.tmp 8)), none⟩, ⟨(some 47), (.ar .add (.tmp 46) (.const (.int .i64 1))), none⟩, ⟨(some 48), (.mv (.tmp 11)), none⟩, ⟨(some 49), (.ar .add (.tmp 47) (.tmp 48)), none⟩, ⟨(some 50), (.mv (.tmp 7)), none⟩, ⟨(some 51), (.call 68 [(.tmp 50)]), none⟩, ⟨(some 52), (.iad 1 (.tmp 45) (.tmp 49)), none⟩, ⟨none, (.st1 (.tmp 52) (.tmp 51)), none⟩]))
    (.reg [⟨(some 43), (.mv (.tmp 11)), none⟩, ⟨(some 44), (.ar .add (.tmp 43) (.const (.int .i64 1))), none⟩, ⟨(some 11), (.mv (.tmp 44)), none⟩]))))))
    (.seq (.reg [⟨(some 53), (.mv (.tmp 10)), none⟩, ⟨(some 54), (.call 41 [(.tmp 53)]), none⟩, ⟨(some 12), (.mv (.tmp 54)), none⟩])
    (.seq (.seq
    (.reg [⟨(some 55), (.mv (.tmp 12)), none⟩, ⟨(some 56), (.pnil false (.tmp 55)), none⟩, ⟨(some 57), (.mv (.tmp 56)), none⟩, ⟨(some 58), (.mv (.tmp 2)), (some (57, false))⟩, ⟨(some 59), (.len (.tmp 58)), (some (57, false))⟩, ⟨(some 60), (.cmp .gtr (.tmp 59) (.const (.int .i64 1500))), (some (57, false))⟩, ⟨(some 61), (.pick (.tmp 57) (.const (.bool true)) (.tmp 60)), none⟩])
    (.cond (.tmp 61)
    (.seq (.reg [⟨(some 62), (.mv (.tmp 12)), none⟩, ⟨(some 63), (.pnil true (.tmp 62)), none⟩, ⟨(some 6), (.mv (.tmp 63)), none⟩]) .ret) .skip))
    (.seq (.reg [⟨(some 13), (.mv (.const (.slice none 0 0))), none⟩])
    (.seq (.seq
    (.reg [⟨(some 14), (.mv (.const (.int .i64 0))), none⟩])
    (.block 2
    (.loop (.seq
    (.seq (.reg [⟨(some 64), (.mv (.tmp 14)), none⟩, ⟨(some 65), (.mv (.tmp 8)), none⟩, ⟨(some 66), (.cmp .lss (.tmp 64) (.tmp 65)), none⟩])
    (.cond (.tmp 66) .skip (.exit 2)))
    (.seq (.block 3
    (.reg [⟨(some 69), (.mv (.tmp 13)), none⟩, ⟨(some 70), (.ldn 3 (.tmp 9)), none⟩, ⟨(some 71), (.mv (.tmp 14)), none⟩, ⟨(some 72), (.mv (.tmp 7)), none⟩, ⟨(some 73), (.call 71 [(.tmp 70), (.tmp 71), (.const (.int .i64 0)), (.tmp 72)]), none⟩, ⟨(some 74), (.bsl 90 #[(.pointer none)] 1 1 [(0, (.tmp 73))]), none⟩, ⟨(some 75), (.app 90 1 8 #[(.pointer none)] (.tmp 69) (.tmp 74)), none⟩, ⟨(some 13), (.mv (.tmp 75)), none⟩]))
    (.reg [⟨(some 67), (.mv (.tmp 14)), none⟩, ⟨(some 68), (.ar .add (.tmp 67) (.const (.int .i64 1))), none⟩, ⟨(some 14), (.mv (.tmp 68)), none⟩]))))))
    (.seq (.seq
    (.reg [⟨(some 15), (.mv (.const (.int .i64 0))), none⟩])
    (.block 4
    (.loop (.seq
    (.seq (.reg [⟨(some 76), (.mv (.tmp 15)), none⟩, ⟨(some 77), (.mv (.tmp 2)), none⟩, ⟨(some 78), (.len (.tmp 77)), none⟩, ⟨(some 79), (.cmp .lss (.tmp 76) (.tmp 78)), none⟩])
    (.cond (.tmp 79) .skip (.exit 4)))
    (.seq (.block 5
    (.reg [⟨(some 82), (.mv (.tmp 13)), none⟩, ⟨(some 83), (.mv (.tmp 2)), none⟩, ⟨(some 84), (.mv (.tmp 15)), none⟩, ⟨(some 85), (.iad 1 (.tmp 83) (.tmp 84)), none⟩, ⟨(some 86), (.ld1 (.tmp 85)), none⟩, ⟨(some 87), (.cv .i64 (.tmp 86)), none⟩, ⟨(some 88), (.mv (.tmp 8)), none⟩, ⟨(some 89), (.dv .rem (.tmp 87) (.tmp 88)), none⟩, ⟨(some 90), (.iad 1 (.tmp 82) (.tmp 89)), none⟩, ⟨(some 91), (.ld1 (.tmp 90)), none⟩, ⟨(some 92), (.mv (.tmp 12)), none⟩, ⟨(some 93), (.call 73 [(.tmp 91), (.tmp 92)]), none⟩]))
    (.reg [⟨(some 80), (.mv (.tmp 15)), none⟩, ⟨(some 81), (.ar .add (.tmp 80) (.const (.int .i64 1))), none⟩, ⟨(some 15), (.mv (.tmp 81)), none⟩]))))))
    (.seq (.reg [⟨(some 16), (.mv (.const (.int .i64 0))), none⟩])
    (.seq (.seq
    (.reg [⟨(some 17), (.mv (.const (.int .i64 0))), none⟩])
    (.block 6
    (.loop (.seq
    (.seq (.reg [⟨(some 94), (.mv (.tmp 17)), none⟩, ⟨(some 95), (.mv (.tmp 8)), none⟩, ⟨(some 96), (.cmp .lss (.tmp 94) (.tmp 95)), none⟩])
    (.cond (.tmp 96) .skip (.exit 6)))
    (.seq (.block 7
    (.seq (.seq
    (.reg [⟨(some 18), (.mv (.const (.int .i64 0))), none⟩])
    (.block 8
    (.loop (.seq
    (.seq (.reg [⟨(some 99), (.mv (.tmp 18)), none⟩, ⟨(some 100), (.cmp .lss (.tmp 99) (.const (.int .i64 40))), none⟩])
    (.cond (.tmp 100) .skip (.exit 8)))
    (.seq (.block 9
    (.reg [⟨(some 103), (.mv (.tmp 13)), none⟩, ⟨(some 104), (.mv (.tmp 17)), none⟩, ⟨(some 105), (.iad 1 (.tmp 103) (.tmp 104)), none⟩, ⟨(some 106), (.ld1 (.tmp 105)), none⟩, ⟨(some 107), (.mv (.tmp 12)), none⟩, ⟨(some 108), (.call 73 [(.tmp 106), (.tmp 107)]), none⟩]))
    (.reg [⟨(some 101), (.mv (.tmp 18)), none⟩, ⟨(some 102), (.ar .add (.tmp 101) (.const (.int .i64 1))), none⟩, ⟨(some 18), (.mv (.tmp 102)), none⟩]))))))
    (.seq (.seq
    (.reg [⟨(some 109), (.mv (.tmp 13)), none⟩, ⟨(some 110), (.mv (.tmp 17)), none⟩, ⟨(some 111), (.iad 1 (.tmp 109) (.tmp 110)), none⟩, ⟨(some 112), (.ld1 (.tmp 111)), none⟩, ⟨(some 113), (.call 72 [(.tmp 112)]), none⟩, ⟨(some 114), (.nt (.tmp 113)), none⟩])
    (.cond (.tmp 114)
    (.seq (.reg [⟨(some 6), (.mv (.const (.bool false))), none⟩]) .ret) .skip))
    (.seq (.reg [⟨(some 115), (.mv (.tmp 13)), none⟩, ⟨(some 116), (.mv (.tmp 17)), none⟩, ⟨(some 117), (.iad 1 (.tmp 115) (.tmp 116)), none⟩, ⟨(some 118), (.ld1 (.tmp 117)), none⟩, ⟨(some 119), (.call 74 [(.tmp 118)]), none⟩])
    (.cond (.tmp 119)
    (.reg [⟨(some 120), (.mv (.tmp 16)), none⟩, ⟨(some 121), (.ar .add (.tmp 120) (.const (.int .i64 1))), none⟩, ⟨(some 16), (.mv (.tmp 121)), none⟩]) .skip)))))
    (.reg [⟨(some 97), (.mv (.tmp 17)), none⟩, ⟨(some 98), (.ar .add (.tmp 97) (.const (.int .i64 1))), none⟩, ⟨(some 17), (.mv (.tmp 98)), none⟩]))))))
    (.seq (.reg [⟨(some 122), (.mv (.tmp 16)), none⟩, ⟨(some 123), (.cmp .leq (.tmp 122) (.const (.int .i64 1))), none⟩, ⟨(some 124), (.mv (.tmp 123)), none⟩, ⟨(some 125), (.mv (.tmp 16)), (some (124, true))⟩, ⟨(some 126), (.cmp .eql (.tmp 125) (.const (.int .i64 1))), (some (124, true))⟩, ⟨(some 127), (.mv (.tmp 126)), (some (124, true))⟩, ⟨(some 128), (.mv (.tmp 12)), (some (127, false))⟩, ⟨(some 129), (.call 42 [(.tmp 128)]), (some (127, false))⟩, ⟨(some 130), (.mv (.tmp 10)), (some (127, false))⟩, ⟨(some 131), (.call 52 [(.tmp 129), (.tmp 130)]), (some (127, false))⟩, ⟨(some 132), (.pick (.tmp 127) (.const (.bool true)) (.tmp 131)), (some (124, true))⟩, ⟨(some 133), (.pick (.tmp 124) (.tmp 132) (.const (.bool false))), none⟩, ⟨(some 134), (.mv (.tmp 133)), none⟩, ⟨(some 135), (.mv (.tmp 8)), (some (134, true))⟩, ⟨(some 136), (.cmp .gtr (.tmp 135) (.const (.int .i64 1))), (some (134, true))⟩, ⟨(some 137), (.mv (.tmp 136)), (some (134, true))⟩, ⟨(some 138), (.mv (.tmp 16)), (some (137, false))⟩, ⟨(some 139), (.cmp .eql (.tmp 138) (.const (.int .i64 1))), (some (137, false))⟩, ⟨(some 140), (.pick (.tmp 137) (.const (.bool true)) (.tmp 139)), (some (134, true))⟩, ⟨(some 141), (.pick (.tmp 134) (.tmp 140) (.const (.bool false))), none⟩, ⟨(some 6), (.mv (.tmp 141)), none⟩]) .ret)))))))))))))))⟩ := by kernel_rfl

/-- allotment/allotmentlaw12.BindPlays -/
theorem tr15 : trF Try.prog pures Try.f15 = some
  ⟨81, [(.t 6)],
    (.seq (.reg [⟨(some 3), (.box 57 (.tmp 0)), none⟩, ⟨(some 5), (.box 95 (.tmp 2)), none⟩, ⟨(some 6), (.mv (.const (.bool false))), none⟩])
    (.seq (.seq
    (.reg [⟨(some 12), (.call 75 []), none⟩, ⟨(some 13), (.nt (.tmp 12)), none⟩])
    (.cond (.tmp 13)
    (.seq (.reg [⟨(some 6), (.mv (.const (.bool false))), none⟩]) .ret) .skip))
    (.seq (.seq
    (.reg [⟨(some 14), (.ldn 3 (.tmp 3)), none⟩, ⟨(some 15), (.mv (.tmp 1)), none⟩, ⟨(some 16), (.call 61 [(.tmp 14), (.tmp 15)]), none⟩, ⟨(some 17), (.nt (.tmp 16)), none⟩])
    (.cond (.tmp 17)
    (.seq (.reg [⟨(some 6), (.mv (.const (.bool true))), none⟩]) .ret) .skip))
    (.seq (.reg [⟨(some 18), (.mv (.tmp 1)), none⟩, ⟨(some 19), (.call 41 [(.tmp 18)]), none⟩, ⟨(some 20), (.mv (.tmp 1)), none⟩, ⟨(some 21), (.call 49 [(.tmp 20)]), none⟩, ⟨(some 7), (.mv (.tmp 19)), none⟩, ⟨(some 8), (.mv (.tmp 21)), none⟩])
    (.seq (.draw (.take ⟨(some 22), (.ldn 3 (.tmp 3)), none⟩ (.take ⟨(some 23), (.iadA 3 1 (.tmp 5) (.const (.int .i64 0))), none⟩ (.take ⟨(some 24), (.ld1 (.tmp 23)), none⟩ (.take ⟨(some 25), (.iadA 3 1 (.tmp 5) (.const (.int .i64 1))), none⟩ (.take ⟨(some 26), (.ld1 (.tmp 25)), none⟩ (.take ⟨(some 27), (.iadA 3 1 (.tmp 5) (.const (.int .i64 2))), none⟩ (.take ⟨(some 28), (.ld1 (.tmp 27)), none⟩ (.take ⟨(some 30), (.ldn 3 (.tmp 3)), none⟩ (.take ⟨(some 31), (.iadA 3 1 (.tmp 5) (.const (.int .i64 0))), none⟩ (.take ⟨(some 32), (.ld1 (.tmp 31)), none⟩ (.take ⟨(some 33), (.iadA 3 1 (.tmp 5) (.const (.int .i64 1))), none⟩ (.take ⟨(some 34), (.ld1 (.tmp 33)), none⟩ (.take ⟨(some 35), (.iadA 3 1 (.tmp 5) (.const (.int .i64 2))), none⟩ (.take ⟨(some 36), (.ld1 (.tmp 35)), none⟩ (.alt false ⟨(some 29), (.call 76 [(.tmp 22), (.tmp 24), (.tmp 26), (.tmp 28)]), none⟩ (.alt false ⟨(some 37), (.call 77 [(.tmp 30), (.tmp 32), (.tmp 34), (.tmp 36)]), none⟩ (.take ⟨(some 9), (.mv (.tmp 29)), none⟩ (.take ⟨(some 10), (.mv (.tmp 37)), none⟩ .done)) .stop) .stop))))))))))))))))
    (.seq (.seq
    (.reg [⟨(some 38), (.mv (.tmp 7)), none⟩, ⟨(some 39), (.pnil false (.tmp 38)), none⟩, ⟨(some 40), (.mv (.tmp 39)), none⟩, ⟨(some 41), (.mv (.tmp 9)), (some (40, false))⟩, ⟨(some 42), (.pnil false (.tmp 41)), (some (40, false))⟩, ⟨(some 43), (.pick (.tmp 40) (.const (.bool true)) (.tmp 42)), none⟩])
    (.cond (.tmp 43)
    (.seq (.reg [⟨(some 6), (.mv (.const (.bool false))), none⟩]) .ret) .skip))
    (.seq (.seq
    (.reg [⟨(some 11), (.mv (.const (.int .i64 0))), none⟩])
    (.block 0
    (.loop (.seq
    (.seq (.reg [⟨(some 44), (.mv (.tmp 11)), none⟩, ⟨(some 45), (.cmp .lss (.tmp 44) (.const (.int .i64 40))), none⟩])
    (.cond (.tmp 45) .skip (.exit 0)))
    (.seq (.block 1
    (.seq (.seq
    (.draw (.take ⟨(some 48), (.mv (.tmp 9)), none⟩ (.take ⟨(some 50), (.mv (.tmp 10)), none⟩ (.take ⟨(some 51), (.nilck (.tmp 50)), none⟩ (.take ⟨(some 52), (.fad 7 (.tmp 51)), none⟩ (.take ⟨(some 53), (.ld1 (.tmp 52)), none⟩ (.alt false ⟨(some 49), (.call 78 [(.tmp 48)]), none⟩ (.take ⟨(some 54), (.beq true (.tmp 49) (.tmp 53)), none⟩ .done) .stop)))))))
    (.cond (.tmp 54)
    (.seq (.reg [⟨(some 6), (.mv (.const (.bool false))), none⟩]) .ret) .skip))
    (.seq (.seq
    (.reg [⟨(some 55), (.mv (.tmp 9)), none⟩, ⟨(some 56), (.call 78 [(.tmp 55)]), none⟩])
    (.cond (.tmp 56) (.exit 0) .skip))
    (.seq (.reg [⟨(some 57), (.mv (.tmp 9)), none⟩, ⟨(some 58), (.mv (.tmp 7)), none⟩, ⟨(some 59), (.call 79 [(.tmp 57), (.tmp 58)]), none⟩])
    (.seq (.reg [⟨(some 60), (.mv (.tmp 10)), none⟩, ⟨(some 61), (.mv (.tmp 8)), none⟩, ⟨(some 62), (.call 80 [(.tmp 60), (.tmp 61)]), none⟩])
    (.seq (.reg [⟨(some 63), (.mv (.tmp 7)), none⟩, ⟨(some 64), (.mv (.tmp 8)), none⟩, ⟨(some 65), (.call 65 [(.tmp 63), (.tmp 64)]), none⟩, ⟨(some 66), (.nt (.tmp 65)), none⟩])
    (.cond (.tmp 66)
    (.seq (.reg [⟨(some 6), (.mv (.const (.bool false))), none⟩]) .ret) .skip)))))))
    (.reg [⟨(some 46), (.mv (.tmp 11)), none⟩, ⟨(some 47), (.ar .add (.tmp 46) (.const (.int .i64 1))), none⟩, ⟨(some 11), (.mv (.tmp 47)), none⟩]))))))
    (.seq (.reg [⟨(some 67), (.mv (.tmp 9)), none⟩, ⟨(some 68), (.mv (.tmp 7)), none⟩, ⟨(some 69), (.call 79 [(.tmp 67), (.tmp 68)]), none⟩])
    (.seq (.draw (.take ⟨(some 70), (.mv (.tmp 9)), none⟩ (.alt false ⟨(some 71), (.call 78 [(.tmp 70)]), none⟩ (.take ⟨(some 72), (.mv (.tmp 71)), none⟩ (.take ⟨(some 73), (.mv (.tmp 7)), (some (72, true))⟩ (.take ⟨(some 75), (.mv (.tmp 8)), (some (72, true))⟩ (.take ⟨(some 76), (.nilck (.tmp 75)), (some (72, true))⟩ (.take ⟨(some 77), (.fad 1 (.tmp 76)), (some (72, true))⟩ (.take ⟨(some 78), (.ld1 (.tmp 77)), (some (72, true))⟩ (.alt false ⟨(some 74), (.call 34 [(.tmp 73)]), (some (72, true))⟩ (.take ⟨(some 79), (.cmp .eql (.tmp 74) (.tmp 78)), (some (72, true))⟩ (.take ⟨(some 80), (.pick (.tmp 72) (.tmp 79) (.const (.bool false))), none⟩ (.take ⟨(some 6), (.mv (.tmp 80)), none⟩ .done))) .stop))))))) .stop))) .ret)))))))))⟩ := by kernel_rfl

/-- allotment/allotmentlaw8.MagBoth -/
theorem tr16 : trF Try.prog pures Try.f16 = some
  ⟨15, [(.t 6)],
    (.seq (.reg [⟨(some 6), (.mv (.const (.bool false))), none⟩])
    (.seq (.seq
    (.reg [⟨(some 7), (.call 81 []), none⟩, ⟨(some 8), (.nt (.tmp 7)), none⟩])
    (.cond (.tmp 8)
    (.seq (.reg [⟨(some 6), (.mv (.const (.bool false))), none⟩]) .ret) .skip))
    (.seq (.reg [⟨(some 9), (.mv (.tmp 0)), none⟩, ⟨(some 10), (.cv .i64 (.tmp 9)), none⟩, ⟨(some 11), (.dv .rem (.tmp 10) (.const (.int .i64 9))), none⟩, ⟨(some 12), (.mv (.tmp 1)), none⟩, ⟨(some 13), (.mv (.tmp 2)), none⟩, ⟨(some 14), (.call 82 [(.tmp 11), (.tmp 12), (.tmp 13)]), none⟩, ⟨(some 6), (.mv (.tmp 14)), none⟩]) .ret)))⟩ := by kernel_rfl

/-- allotment/allotmentlaw8.MagTwo -/
theorem tr17 : trF Try.prog pures Try.f17 = some
  ⟨238, [(.t 6)],
    (.seq (.reg [⟨(some 4), (.box 54 (.tmp 1)), none⟩, ⟨(some 6), (.mv (.const (.bool false))), none⟩])
    (.seq (.seq
    (.reg [⟨(some 27), (.call 81 []), none⟩, ⟨(some 28), (.nt (.tmp 27)), none⟩])
    (.cond (.tmp 28)
    (.seq (.reg [⟨(some 6), (.mv (.const (.bool false))), none⟩]) .ret) .skip))
    (.seq (.reg [⟨(some 29), (.mv (.tmp 0)), none⟩, ⟨(some 30), (.len (.tmp 29)), none⟩, ⟨(some 31), (.dv .quo (.tmp 30) (.const (.int .i64 2))), none⟩, ⟨(some 32), (.mn (.tmp 31) (.const (.int .i64 8))), none⟩, ⟨(some 33), (.bld #[(.int .i64 0), (.int .i64 0), (.int .i64 0)] [(0, (1, (.const (.int .i64 4)))), (1, (1, (.const (.int .i64 2)))), (2, (1, (.tmp 32)))]), none⟩, ⟨(some 7), (.alc 57 (.agg #[(.int .i64 0), (.int .i64 0), (.int .i64 0)])), none⟩, ⟨none, (.stn 3 (.tmp 7) (.tmp 33)), none⟩])
    (.seq (.seq
    (.reg [⟨(some 34), (.mv (.tmp 2)), none⟩, ⟨(some 35), (.len (.tmp 34)), none⟩, ⟨(some 36), (.cmp .gtr (.tmp 35) (.const (.int .i64 300))), none⟩])
    (.cond (.tmp 36)
    (.seq (.reg [⟨(some 6), (.mv (.const (.bool true))), none⟩]) .ret) .skip))
    (.seq (.reg [⟨(some 37), (.ldn 3 (.tmp 7)), none⟩, ⟨(some 38), (.pcall 54 [(.tmp 37)]), none⟩, ⟨(some 39), (.mks 26 8 (.int .u64 0) (.tmp 38) (.tmp 38)), none⟩, ⟨(some 8), (.mv (.tmp 39)), none⟩])
    (.seq (.seq
    (.reg [⟨(some 9), (.mv (.const (.int .i64 0))), none⟩])
    (.block 0
    (.loop (.seq
    (.seq (.reg [⟨(some 40), (.mv (.tmp 9)), none⟩, ⟨(some 41), (.cmp .lss (.tmp 40) (.const (.int .i64 2))), none⟩])
    (.cond (.tmp 41) .skip (.exit 0)))
    (.seq (.block 1
    (.seq (.reg [⟨(some 10), (.mv (.const (.int .i64 0))), none⟩])
    (.block 2
    (.loop (.seq
    (.seq (.reg [⟨(some 44), (.mv (.tmp 10)), none⟩, ⟨(some 45), (.fad 2 (.tmp 7)), none⟩, ⟨(some 46), (.ld1 (.tmp 45)), none⟩, ⟨(some 47), (.cmp .lss (.tmp 44) (.tmp 46)), none⟩])
    (.cond (.tmp 47) .skip (.exit 2)))
    (.seq (.block 3
    (.draw (.take ⟨(some 50), (.mv (.tmp 8)), none⟩ (.take ⟨(some 51), (.ldn 3 (.tmp 7)), none⟩ (.take ⟨(some 52), (.mv (.tmp 9)), none⟩ (.take ⟨(some 53), (.mv (.tmp 10)), none⟩ (.take ⟨(some 55), (.mv (.tmp 0)), none⟩ (.take ⟨(some 56), (.mv (.tmp 9)), none⟩ (.take ⟨(some 57), (.fad 2 (.tmp 7)), none⟩ (.take ⟨(some 58), (.ld1 (.tmp 57)), none⟩ (.take ⟨(some 59), (.ar .mul (.tmp 56) (.tmp 58)), none⟩ (.take ⟨(some 60), (.mv (.tmp 10)), none⟩ (.take ⟨(some 61), (.ar .add (.tmp 59) (.tmp 60)), none⟩ (.take ⟨(some 62), (.iad 1 (.tmp 55) (.tmp 61)), none⟩ (.take ⟨(some 63), (.ld1 (.tmp 62)), none⟩ (.alt false ⟨(some 54), (.pcall 83 [(.tmp 51), (.tmp 52), (.tmp 53)]), none⟩ (.take ⟨(some 64), (.iad 1 (.tmp 50) (.tmp 54)), none⟩ (.alt true ⟨none, (.st1 (.tmp 64) (.tmp 63)), none⟩ .done .stop)) .stop))))))))))))))))
    (.reg [⟨(some 48), (.mv (.tmp 10)), none⟩, ⟨(some 49), (.ar .add (.tmp 48) (.const (.int .i64 1))), none⟩, ⟨(some 10), (.mv (.tmp 49)), none⟩])))))))
    (.reg [⟨(some 42), (.mv (.tmp 9)), none⟩, ⟨(some 43), (.ar .add (.tmp 42) (.const (.int .i64 1))), none⟩, ⟨(some 9), (.mv (.tmp 43)), none⟩]))))))
    (.seq (.reg [⟨(some 65), (.mv (.tmp 8)), none⟩, ⟨(some 66), (.call 41 [(.tmp 65)]), none⟩, ⟨(some 67), (.mv (.tmp 8)), none⟩, ⟨(some 68), (.call 41 [(.tmp 67)]), none⟩, ⟨(some 69), (.mv (.tmp 8)), none⟩, ⟨(some 70), (.call 41 [(.tmp 69)]), none⟩, ⟨(some 11), (.mv (.tmp 66)), none⟩, ⟨(some 12), (.mv (.tmp 68)), none⟩, ⟨(some 13), (.mv (.tmp 70)), none⟩])
    (.seq (.draw (.take ⟨(some 71), (.ldn 3 (.tmp 7)), none⟩ (.take ⟨(some 72), (.iadA 2 1 (.tmp 4) (.const (.int .i64 0))), none⟩ (.take ⟨(some 73), (.ld1 (.tmp 72)), none⟩ (.take ⟨(some 74), (.cv .i64 (.tmp 73)), none⟩ (.take ⟨(some 75), (.dv .rem (.tmp 74) (.const (.int .i64 4))), none⟩ (.take ⟨(some 77), (.ldn 3 (.tmp 7)), none⟩ (.take ⟨(some 78), (.iadA 2 1 (.tmp 4) (.const (.int .i64 1))), none⟩ (.take ⟨(some 79), (.ld1 (.tmp 78)), none⟩ (.take ⟨(some 80), (.cv .i64 (.tmp 79)), none⟩ (.take ⟨(some 81), (.dv .rem (.tmp 80) (.const (.int .i64 4))), none⟩ (.take ⟨(some 82), (.iadA 2 1 (.tmp 4) (.const (.int .i64 1))), none⟩ (.take ⟨(some 83), (.ld1 (.tmp 82)), none⟩ (.take ⟨(some 84), (.sh .shr (.tmp 83) (.const (.int .u64 2))), none⟩ (.take ⟨(some 85), (.cv .i64 (.tmp 84)), none⟩ (.take ⟨(some 86), (.dv .rem (.tmp 85) (.const (.int .i64 2))), none⟩ (.alt false ⟨(some 76), (.call 84 [(.tmp 71), (.const (.int .i64 0)), (.tmp 75)]), none⟩ (.alt false ⟨(some 87), (.call 85 [(.tmp 77), (.const (.int .i64 1)), (.tmp 81), (.tmp 86), (.const (.int .i64 3))]), none⟩ (.take ⟨(some 14), (.mv (.tmp 76)), none⟩ (.take ⟨(some 15), (.mv (.tmp 87)), none⟩ .done)) .stop) .stop)))))))))))))))))
    (.seq (.draw (.take ⟨(some 88), (.ldn 3 (.tmp 7)), none⟩ (.take ⟨(some 89), (.iadA 2 1 (.tmp 4) (.const (.int .i64 0))), none⟩ (.take ⟨(some 90), (.ld1 (.tmp 89)), none⟩ (.take ⟨(some 91), (.cv .i64 (.tmp 90)), none⟩ (.take ⟨(some 92), (.dv .rem (.tmp 91) (.const (.int .i64 4))), none⟩ (.take ⟨(some 94), (.ldn 3 (.tmp 7)), none⟩ (.take ⟨(some 95), (.iadA 2 1 (.tmp 4) (.const (.int .i64 1))), none⟩ (.take ⟨(some 96), (.ld1 (.tmp 95)), none⟩ (.take ⟨(some 97), (.cv .i64 (.tmp 96)), none⟩ (.take ⟨(some 98), (.dv .rem (.tmp 97) (.const (.int .i64 4))), none⟩ (.take ⟨(some 99), (.iadA 2 1 (.tmp 4) (.const (.int .i64 1))), none⟩ (.take ⟨(some 100), (.ld1 (.tmp 99)), none⟩ (.take ⟨(some 101), (.sh .shr (.tmp 100) (.const (.int .u64 2))), none⟩ (.take ⟨(some 102), (.cv .i64 (.tmp 101)), none⟩ (.take ⟨(some 103), (.dv .rem (.tmp 102) (.const (.int .i64 2))), none⟩ (.alt false ⟨(some 93), (.call 84 [(.tmp 88), (.const (.int .i64 0)), (.tmp 92)]), none⟩ (.alt false ⟨(some 104), (.call 85 [(.tmp 94), (.const (.int .i64 1)), (.tmp 98), (.tmp 103), (.const (.int .i64 3))]), none⟩ (.take ⟨(some 16), (.mv (.tmp 93)), none⟩ (.take ⟨(some 17), (.mv (.tmp 104)), none⟩ .done)) .stop) .stop)))))))))))))))))
    (.seq (.seq
    (.reg [⟨(some 105), (.mv (.tmp 11)), none⟩, ⟨(some 106), (.pnil false (.tmp 105)), none⟩, ⟨(some 107), (.mv (.tmp 106)), none⟩, ⟨(some 108), (.mv (.tmp 12)), (some (107, false))⟩, ⟨(some 109), (.pnil false (.tmp 108)), (some (107, false))⟩, ⟨(some 110), (.pick (.tmp 107) (.const (.bool true)) (.tmp 109)), none⟩, ⟨(some 111), (.mv (.tmp 110)), none⟩, ⟨(some 112), (.mv (.tmp 13)), (some (111, false))⟩, ⟨(some 113), (.pnil false (.tmp 112)), (some (111, false))⟩, ⟨(some 114), (.pick (.tmp 111) (.const (.bool true)) (.tmp 113)), none⟩, ⟨(some 115), (.mv (.tmp 114)), none⟩, ⟨(some 116), (.mv (.tmp 14)), (some (115, false))⟩, ⟨(some 117), (.pnil false (.tmp 116)), (some (115, false))⟩, ⟨(some 118), (.pick (.tmp 115) (.const (.bool true)) (.tmp 117)), none⟩, ⟨(some 119), (.mv (.tmp 118)), none⟩, ⟨(some 120), (.mv (.tmp 15)), (some (119, false))⟩, ⟨(some 121), (.pnil false (.tmp 120)), (some (119, false))⟩, ⟨(some 122), (.pick (.tmp 119) (.const (.bool true)) (.tmp 121)), none⟩, ⟨(some 123), (.mv (.tmp 122)), none⟩, ⟨(some 124), (.mv (.tmp 16)), (some (123, false))⟩, ⟨(some 125), (.pnil false (.tmp 124)), (some (123, false))⟩, ⟨(some 126), (.pick (.tmp 123) (.const (.bool true)) (.tmp 125)), none⟩, ⟨(some 127), (.mv (.tmp 126)), none⟩, ⟨(some 128), (.mv (.tmp 17)), (some (127, false))⟩, ⟨(some 129), (.pnil false (.tmp 128)), (some (127, false))⟩, ⟨(some 130), (.pick (.tmp 127) (.const (.bool true)) (.tmp 129)), none⟩])
    (.cond (.tmp 130)
    (.seq (.reg [⟨(some 6), (.mv (.const (.bool false))), none⟩]) .ret) .skip))
    (.seq (.seq
    (.reg [⟨(some 18), (.mv (.const (.int .i64 0))), none⟩])
    (.block 4
    (.loop (.seq
    (.seq (.reg [⟨(some 131), (.mv (.tmp 18)), none⟩, ⟨(some 132), (.mv (.tmp 2)), none⟩, ⟨(some 133), (.len (.tmp 132)), none⟩, ⟨(some 134), (.cmp .lss (.tmp 131) (.tmp 133)), none⟩])
    (.cond (.tmp 134) .skip (.exit 4)))
    (.seq (.block 5
    (.seq (.reg [⟨(some 137), (.mv (.tmp 2)), none⟩, ⟨(some 138), (.mv (.tmp 18)), none⟩, ⟨(some 139), (.iad 1 (.tmp 137) (.tmp 138)), none⟩, ⟨(some 140), (.ld1 (.tmp 139)), none⟩])
    (.cond (.tmp 140)
    (.reg [⟨(some 141), (.mv (.tmp 15)), none⟩, ⟨(some 142), (.mv (.tmp 11)), none⟩, ⟨(some 143), (.call 86 [(.tmp 141), (.tmp 142)]), none⟩])
    (.reg [⟨(some 144), (.mv (.tmp 14)), none⟩, ⟨(some 145), (.mv (.tmp 11)), none⟩, ⟨(some 146), (.call 87 [(.tmp 144), (.tmp 145)]), none⟩]))))
    (.reg [⟨(some 135), (.mv (.tmp 18)), none⟩, ⟨(some 136), (.ar .add (.tmp 135) (.const (.int .i64 1))), none⟩, ⟨(some 18), (.mv (.tmp 136)), none⟩]))))))
    (.seq (.seq
    (.reg [⟨(some 19), (.mv (.const (.int .i64 0))), none⟩])
    (.block 6
    (.loop (.seq
    (.seq (.reg [⟨(some 147), (.mv (.tmp 19)), none⟩, ⟨(some 148), (.fad 2 (.tmp 7)), none⟩, ⟨(some 149), (.ld1 (.tmp 148)), none⟩, ⟨(some 150), (.ar .add (.tmp 149) (.const (.int .i64 2))), none⟩, ⟨(some 151), (.cmp .lss (.tmp 147) (.tmp 150)), none⟩])
    (.cond (.tmp 151) .skip (.exit 6)))
    (.seq (.block 7
    (.seq (.reg [⟨(some 154), (.mv (.tmp 14)), none⟩, ⟨(some 155), (.mv (.tmp 11)), none⟩, ⟨(some 156), (.call 87 [(.tmp 154), (.tmp 155)]), none⟩])
    (.seq (.reg [⟨(some 157), (.mv (.tmp 15)), none⟩, ⟨(some 158), (.mv (.tmp 11)), none⟩, ⟨(some 159), (.call 86 [(.tmp 157), (.tmp 158)]), none⟩])
    (.seq (.reg [⟨(some 160), (.mv (.tmp 16)), none⟩, ⟨(some 161), (.mv (.tmp 12)), none⟩, ⟨(some 162), (.call 87 [(.tmp 160), (.tmp 161)]), none⟩])
    (.reg [⟨(some 163), (.mv (.tmp 17)), none⟩, ⟨(some 164), (.mv (.tmp 13)), none⟩, ⟨(some 165), (.call 86 [(.tmp 163), (.tmp 164)]), none⟩])))))
    (.reg [⟨(some 152), (.mv (.tmp 19)), none⟩, ⟨(some 153), (.ar .add (.tmp 152) (.const (.int .i64 1))), none⟩, ⟨(some 19), (.mv (.tmp 153)), none⟩]))))))
    (.seq (.reg [⟨(some 167), (.mv (.tmp 14)), none⟩, ⟨(some 168), (.call 88 [(.tmp 167)]), none⟩, ⟨(some 166), (.mv (.tmp 168)), none⟩, ⟨(some 169), (.ext 0 (.tmp 166)), none⟩, ⟨(some 170), (.ext 1 (.tmp 166)), none⟩, ⟨(some 171), (.ext 2 (.tmp 166)), none⟩, ⟨(some 20), (.mv (.tmp 169)), none⟩, ⟨(some 21), (.mv (.tmp 170)), none⟩, ⟨(some 22), (.mv (.tmp 171)), none⟩])
    (.seq (.reg [⟨(some 173), (.mv (.tmp 16)), none⟩, ⟨(some 174), (.call 88 [(.tmp 173)]), none⟩, ⟨(some 172), (.mv (.tmp 174)), none⟩, ⟨(some 175), (.ext 0 (.tmp 172)), none⟩, ⟨(some 176), (.ext 1 (.tmp 172)), none⟩, ⟨(some 177), (.ext 2 (.tmp 172)), none⟩, ⟨(some 23), (.mv (.tmp 175)), none⟩, ⟨(some 24), (.mv (.tmp 176)), none⟩, ⟨(some 25), (.mv (.tmp 177)), none⟩])
    (.seq (.seq
    (.reg [⟨(some 178), (.mv (.tmp 14)), none⟩, ⟨(some 179), (.call 89 [(.tmp 178)]), none⟩, ⟨(some 180), (.nt (.tmp 179)), none⟩, ⟨(some 181), (.mv (.tmp 180)), none⟩, ⟨(some 182), (.mv (.tmp 15)), (some (181, false))⟩, ⟨(some 183), (.call 90 [(.tmp 182)]), (some (181, false))⟩, ⟨(some 184), (.nt (.tmp 183)), (some (181, false))⟩, ⟨(some 185), (.pick (.tmp 181) (.const (.bool true)) (.tmp 184)), none⟩, ⟨(some 186), (.mv (.tmp 185)), none⟩, ⟨(some 187), (.mv (.tmp 20)), (some (186, false))⟩, ⟨(some 188), (.mv (.tmp 23)), (some (186, false))⟩, ⟨(some 189), (.cmp .neq (.tmp 187) (.tmp 188)), (some (186, false))⟩, ⟨(some 190), (.pick (.tmp 186) (.const (.bool true)) (.tmp 189)), none⟩, ⟨(some 191), (.mv (.tmp 190)), none⟩, ⟨(some 192), (.mv (.tmp 21)), (some (191, false))⟩, ⟨(some 193), (.mv (.tmp 24)), (some (191, false))⟩, ⟨(some 194), (.cmp .neq (.tmp 192) (.tmp 193)), (some (191, false))⟩, ⟨(some 195), (.pick (.tmp 191) (.const (.bool true)) (.tmp 194)), none⟩, ⟨(some 196), (.mv (.tmp 195)), none⟩, ⟨(some 197), (.mv (.tmp 22)), (some (196, false))⟩, ⟨(some 198), (.mv (.tmp 25)), (some (196, false))⟩, ⟨(some 199), (.beq true (.tmp 197) (.tmp 198)), (some (196, false))⟩, ⟨(some 200), (.pick (.tmp 196) (.const (.bool true)) (.tmp 199)), none⟩, ⟨(some 201), (.mv (.tmp 200)), none⟩, ⟨(some 202), (.mv (.tmp 15)), (some (201, false))⟩, ⟨(some 203), (.call 91 [(.tmp 202)]), (some (201, false))⟩, ⟨(some 204), (.mv (.tmp 17)), (some (201, false))⟩, ⟨(some 205), (.call 91 [(.tmp 204)]), (some (201, false))⟩, ⟨(some 206), (.beq true (.tmp 203) (.tmp 205)), (some (201, false))⟩, ⟨(some 207), (.pick (.tmp 201) (.const (.bool true)) (.tmp 206)), none⟩])
    (.cond (.tmp 207)
    (.seq (.reg [⟨(some 6), (.mv (.const (.bool false))), none⟩]) .ret) .skip))
    (.seq (.seq
    (.reg [⟨(some 26), (.mv (.const (.int .i64 0))), none⟩])
    (.block 8
    (.loop (.seq
    (.seq (.reg [⟨(some 208), (.mv (.tmp 26)), none⟩, ⟨(some 209), (.fad 2 (.tmp 7)), none⟩, ⟨(some 210), (.ld1 (.tmp 209)), none⟩, ⟨(some 211), (.cmp .lss (.tmp 208) (.tmp 210)), none⟩])
    (.cond (.tmp 211) .skip (.exit 8)))
    (.seq (.block 9
    (.seq (.draw (.take ⟨(some 214), (.mv (.tmp 11)), none⟩ (.take ⟨(some 215), (.ldn 3 (.tmp 7)), none⟩ (.take ⟨(some 216), (.mv (.tmp 26)), none⟩ (.take ⟨(some 219), (.mv (.tmp 12)), none⟩ (.take ⟨(some 220), (.ldn 3 (.tmp 7)), none⟩ (.take ⟨(some 221), (.mv (.tmp 26)), none⟩ (.alt false ⟨(some 217), (.pcall 83 [(.tmp 215), (.const (.int .i64 0)), (.tmp 216)]), none⟩ (.alt false ⟨(some 218), (.call 33 [(.tmp 214), (.tmp 217)]), none⟩ (.alt false ⟨(some 222), (.pcall 83 [(.tmp 220), (.const (.int .i64 0)), (.tmp 221)]), none⟩ (.alt false ⟨(some 223), (.call 33 [(.tmp 219), (.tmp 222)]), none⟩ (.take ⟨(some 224), (.cmp .neq (.tmp 218) (.tmp 223)), none⟩ (.take ⟨(some 225), (.mv (.tmp 224)), none⟩ (.take ⟨(some 226), (.mv (.tmp 11)), (some (225, false))⟩ (.take ⟨(some 227), (.ldn 3 (.tmp 7)), (some (225, false))⟩ (.take ⟨(some 228), (.mv (.tmp 26)), (some (225, false))⟩ (.take ⟨(some 231), (.mv (.tmp 13)), (some (225, false))⟩ (.take ⟨(some 232), (.ldn 3 (.tmp 7)), (some (225, false))⟩ (.take ⟨(some 233), (.mv (.tmp 26)), (some (225, false))⟩ (.alt false ⟨(some 229), (.pcall 83 [(.tmp 227), (.const (.int .i64 1)), (.tmp 228)]), (some (225, false))⟩ (.alt false ⟨(some 230), (.call 33 [(.tmp 226), (.tmp 229)]), (some (225, false))⟩ (.alt false ⟨(some 234), (.pcall 83 [(.tmp 232), (.const (.int .i64 1)), (.tmp 233)]), (some (225, false))⟩ (.alt false ⟨(some 235), (.call 33 [(.tmp 231), (.tmp 234)]), (some (225, false))⟩ (.take ⟨(some 236), (.cmp .neq (.tmp 230) (.tmp 235)), (some (225, false))⟩ (.take ⟨(some 237), (.pick (.tmp 225) (.const (.bool true)) (.tmp 236)), none⟩ .done)) .stop) .stop) .stop) .stop))))))))) .stop) .stop) .stop) .stop))))))))
    (.cond (.tmp 237)
    (.seq (.reg [⟨(some 6), (.mv (.const (.bool false))), none⟩]) .ret) .skip)))
    (.reg [⟨(some 212), (.mv (.tmp 26)), none⟩, ⟨(some 213), (.ar .add (.tmp 212) (.const (.int .i64 1))), none⟩, ⟨(some 26), (.mv (.tmp 213)), none⟩]))))))
    (.seq (.reg [⟨(some 6), (.mv (.const (.bool true))), none⟩]) .ret)))))))))))))))))⟩ := by kernel_rfl

/-- allotment/allotmentlaw8.MagTakes -/
theorem tr18 : trF Try.prog pures Try.f18 = some
  ⟨125, [(.t 6)],
    (.seq (.reg [⟨(some 3), (.box 57 (.tmp 0)), none⟩, ⟨(some 5), (.box 73 (.tmp 2)), none⟩, ⟨(some 6), (.mv (.const (.bool false))), none⟩])
    (.seq (.seq
    (.reg [⟨(some 15), (.call 81 []), none⟩, ⟨(some 16), (.nt (.tmp 15)), none⟩])
    (.cond (.tmp 16)
    (.seq (.reg [⟨(some 6), (.mv (.const (.bool false))), none⟩]) .ret) .skip))
    (.seq (.seq
    (.reg [⟨(some 17), (.ldn 3 (.tmp 3)), none⟩, ⟨(some 18), (.mv (.tmp 1)), none⟩, ⟨(some 19), (.call 61 [(.tmp 17), (.tmp 18)]), none⟩, ⟨(some 20), (.nt (.tmp 19)), none⟩])
    (.cond (.tmp 20)
    (.seq (.reg [⟨(some 21), (.ldn 3 (.tmp 3)), none⟩, ⟨(some 22), (.pcall 92 [(.tmp 21)]), none⟩, ⟨(some 23), (.mv (.tmp 22)), none⟩, ⟨(some 24), (.ldn 3 (.tmp 3)), (some (23, false))⟩, ⟨(some 25), (.iadA 2 1 (.tmp 5) (.const (.int .i64 0))), (some (23, false))⟩, ⟨(some 26), (.ld1 (.tmp 25)), (some (23, false))⟩, ⟨(some 27), (.iadA 2 1 (.tmp 5) (.const (.int .i64 1))), (some (23, false))⟩, ⟨(some 28), (.ld1 (.tmp 27)), (some (23, false))⟩, ⟨(some 29), (.call 84 [(.tmp 24), (.tmp 26), (.tmp 28)]), (some (23, false))⟩, ⟨(some 30), (.call 89 [(.tmp 29)]), (some (23, false))⟩, ⟨(some 31), (.pick (.tmp 23) (.const (.bool true)) (.tmp 30)), none⟩, ⟨(some 6), (.mv (.tmp 31)), none⟩]) .ret) .skip))
    (.seq (.reg [⟨(some 32), (.mv (.tmp 1)), none⟩, ⟨(some 33), (.call 41 [(.tmp 32)]), none⟩, ⟨(some 34), (.mv (.tmp 1)), none⟩, ⟨(some 35), (.call 49 [(.tmp 34)]), none⟩, ⟨(some 7), (.mv (.tmp 33)), none⟩, ⟨(some 8), (.mv (.tmp 35)), none⟩])
    (.seq (.draw (.take ⟨(some 36), (.ldn 3 (.tmp 3)), none⟩ (.take ⟨(some 37), (.iadA 2 1 (.tmp 5) (.const (.int .i64 0))), none⟩ (.take ⟨(some 38), (.ld1 (.tmp 37)), none⟩ (.take ⟨(some 39), (.iadA 2 1 (.tmp 5) (.const (.int .i64 1))), none⟩ (.take ⟨(some 40), (.ld1 (.tmp 39)), none⟩ (.take ⟨(some 42), (.ldn 3 (.tmp 3)), none⟩ (.take ⟨(some 43), (.iadA 2 1 (.tmp 5) (.const (.int .i64 0))), none⟩ (.take ⟨(some 44), (.ld1 (.tmp 43)), none⟩ (.take ⟨(some 45), (.iadA 2 1 (.tmp 5) (.const (.int .i64 1))), none⟩ (.take ⟨(some 46), (.ld1 (.tmp 45)), none⟩ (.alt false ⟨(some 41), (.call 84 [(.tmp 36), (.tmp 38), (.tmp 40)]), none⟩ (.alt false ⟨(some 47), (.call 93 [(.tmp 42), (.tmp 44), (.tmp 46)]), none⟩ (.take ⟨(some 9), (.mv (.tmp 41)), none⟩ (.take ⟨(some 10), (.mv (.tmp 47)), none⟩ .done)) .stop) .stop))))))))))))
    (.seq (.seq
    (.reg [⟨(some 48), (.mv (.tmp 7)), none⟩, ⟨(some 49), (.pnil false (.tmp 48)), none⟩, ⟨(some 50), (.mv (.tmp 49)), none⟩, ⟨(some 51), (.mv (.tmp 9)), (some (50, false))⟩, ⟨(some 52), (.pnil false (.tmp 51)), (some (50, false))⟩, ⟨(some 53), (.pick (.tmp 50) (.const (.bool true)) (.tmp 52)), none⟩])
    (.cond (.tmp 53)
    (.seq (.reg [⟨(some 6), (.mv (.const (.bool false))), none⟩]) .ret) .skip))
    (.seq (.seq
    (.reg [⟨(some 11), (.mv (.const (.int .i64 0))), none⟩])
    (.block 0
    (.loop (.seq
    (.seq (.reg [⟨(some 54), (.mv (.tmp 11)), none⟩, ⟨(some 55), (.fad 2 (.tmp 3)), none⟩, ⟨(some 56), (.ld1 (.tmp 55)), none⟩, ⟨(some 57), (.ar .add (.tmp 56) (.const (.int .i64 3))), none⟩, ⟨(some 58), (.cmp .lss (.tmp 54) (.tmp 57)), none⟩])
    (.cond (.tmp 58) .skip (.exit 0)))
    (.seq (.block 1
    (.seq (.reg [⟨(some 62), (.mv (.tmp 9)), none⟩, ⟨(some 63), (.call 88 [(.tmp 62)]), none⟩, ⟨(some 61), (.mv (.tmp 63)), none⟩, ⟨(some 64), (.ext 0 (.tmp 61)), none⟩, ⟨(some 65), (.ext 1 (.tmp 61)), none⟩, ⟨(some 66), (.ext 2 (.tmp 61)), none⟩, ⟨(some 12), (.mv (.tmp 64)), none⟩, ⟨(some 13), (.mv (.tmp 65)), none⟩, ⟨(some 14), (.mv (.tmp 66)), none⟩])
    (.seq (.seq
    (.draw (.take ⟨(some 67), (.mv (.tmp 9)), none⟩ (.take ⟨(some 69), (.mv (.tmp 10)), none⟩ (.take ⟨(some 70), (.nilck (.tmp 69)), none⟩ (.take ⟨(some 71), (.fad 10 (.tmp 70)), none⟩ (.take ⟨(some 72), (.ld1 (.tmp 71)), none⟩ (.alt false ⟨(some 68), (.call 89 [(.tmp 67)]), none⟩ (.take ⟨(some 73), (.beq true (.tmp 68) (.tmp 72)), none⟩ (.take ⟨(some 74), (.mv (.tmp 73)), none⟩ (.take ⟨(some 75), (.mv (.tmp 14)), (some (74, false))⟩ (.take ⟨(some 76), (.mv (.tmp 10)), (some (74, false))⟩ (.take ⟨(some 77), (.nilck (.tmp 76)), (some (74, false))⟩ (.take ⟨(some 78), (.fad 9 (.tmp 77)), (some (74, false))⟩ (.take ⟨(some 79), (.ld1 (.tmp 78)), (some (74, false))⟩ (.take ⟨(some 80), (.beq true (.tmp 75) (.tmp 79)), (some (74, false))⟩ (.take ⟨(some 81), (.pick (.tmp 74) (.const (.bool true)) (.tmp 80)), none⟩ (.take ⟨(some 82), (.mv (.tmp 81)), none⟩ (.take ⟨(some 83), (.mv (.tmp 14)), (some (82, false))⟩ (.take ⟨(some 84), (.mv (.tmp 83)), (some (82, false))⟩ (.take ⟨(some 85), (.mv (.tmp 12)), (some (84, true))⟩ (.take ⟨(some 86), (.mv (.tmp 10)), (some (84, true))⟩ (.take ⟨(some 87), (.nilck (.tmp 86)), (some (84, true))⟩ (.take ⟨(some 88), (.fad 6 (.tmp 87)), (some (84, true))⟩ (.take ⟨(some 89), (.fad 0 (.tmp 88)), (some (84, true))⟩ (.take ⟨(some 90), (.ld1 (.tmp 89)), (some (84, true))⟩ (.take ⟨(some 91), (.cmp .neq (.tmp 85) (.tmp 90)), (some (84, true))⟩ (.take ⟨(some 92), (.mv (.tmp 91)), (some (84, true))⟩ (.take ⟨(some 93), (.mv (.tmp 13)), (some (92, false))⟩ (.take ⟨(some 94), (.mv (.tmp 10)), (some (92, false))⟩ (.take ⟨(some 95), (.nilck (.tmp 94)), (some (92, false))⟩ (.take ⟨(some 96), (.fad 6 (.tmp 95)), (some (92, false))⟩ (.take ⟨(some 97), (.fad 1 (.tmp 96)), (some (92, false))⟩ (.take ⟨(some 98), (.ld1 (.tmp 97)), (some (92, false))⟩ (.take ⟨(some 99), (.cmp .neq (.tmp 93) (.tmp 98)), (some (92, false))⟩ (.take ⟨(some 100), (.pick (.tmp 92) (.const (.bool true)) (.tmp 99)), (some (84, true))⟩ (.take ⟨(some 101), (.pick (.tmp 84) (.tmp 100) (.const (.bool false))), (some (82, false))⟩ (.take ⟨(some 102), (.pick (.tmp 82) (.const (.bool true)) (.tmp 101)), none⟩ (.take ⟨(some 103), (.mv (.tmp 102)), none⟩ (.take ⟨(some 104), (.mv (.tmp 14)), (some (103, false))⟩ (.take ⟨(some 105), (.nt (.tmp 104)), (some (103, false))⟩ (.take ⟨(some 106), (.mv (.tmp 105)), (some (103, false))⟩ (.take ⟨(some 107), (.mv (.tmp 12)), (some (106, true))⟩ (.take ⟨(some 108), (.mv (.tmp 13)), (some (106, true))⟩ (.take ⟨(some 109), (.ar .add (.tmp 107) (.tmp 108)), (some (106, true))⟩ (.take ⟨(some 110), (.cmp .neq (.tmp 109) (.const (.int .i64 0))), (some (106, true))⟩ (.take ⟨(some 111), (.pick (.tmp 106) (.tmp 110) (.const (.bool false))), (some (103, false))⟩ (.take ⟨(some 112), (.pick (.tmp 103) (.const (.bool true)) (.tmp 111)), none⟩ .done)))))))))))))))))))))))))))))))))))))))) .stop)))))))
    (.cond (.tmp 112)
    (.seq (.reg [⟨(some 6), (.mv (.const (.bool false))), none⟩]) .ret) .skip))
    (.seq (.reg [⟨(some 113), (.mv (.tmp 9)), none⟩, ⟨(some 114), (.mv (.tmp 7)), none⟩, ⟨(some 115), (.call 87 [(.tmp 113), (.tmp 114)]), none⟩])
    (.seq (.reg [⟨(some 116), (.mv (.tmp 10)), none⟩, ⟨(some 117), (.mv (.tmp 8)), none⟩, ⟨(some 118), (.call 94 [(.tmp 116), (.tmp 117)]), none⟩])
    (.seq (.reg [⟨(some 119), (.mv (.tmp 7)), none⟩, ⟨(some 120), (.mv (.tmp 8)), none⟩, ⟨(some 121), (.call 65 [(.tmp 119), (.tmp 120)]), none⟩, ⟨(some 122), (.nt (.tmp 121)), none⟩])
    (.cond (.tmp 122)
    (.seq (.reg [⟨(some 6), (.mv (.const (.bool false))), none⟩]) .ret) .skip)))))))
    (.reg [⟨(some 59), (.mv (.tmp 11)), none⟩, ⟨(some 60), (.ar .add (.tmp 59) (.const (.int .i64 1))), none⟩, ⟨(some 11), (.mv (.tmp 60)), none⟩]))))))
    (.seq (.reg [⟨(some 123), (.mv (.tmp 9)), none⟩, ⟨(some 124), (.call 89 [(.tmp 123)]), none⟩, ⟨(some 6), (.mv (.tmp 124)), none⟩]) .ret))))))))⟩ := by kernel_rfl

/-- allotment/allotmentlaw8.MagKnown -/
theorem tr19 : trF Try.prog pures Try.f19 = some
  ⟨86, [(.t 0)],
    (.seq (.reg [⟨(some 0), (.mv (.const (.bool false))), none⟩])
    (.seq (.seq
    (.reg [⟨(some 10), (.call 81 []), none⟩, ⟨(some 11), (.nt (.tmp 10)), none⟩])
    (.cond (.tmp 11)
    (.seq (.reg [⟨(some 0), (.mv (.const (.bool false))), none⟩]) .ret) .skip))
    (.seq (.reg [⟨(some 12), (.bld #[(.int .i64 0), (.int .i64 0), (.int .i64 0)] [(0, (1, (.const (.int .i64 1)))), (1, (1, (.const (.int .i64 1)))), (2, (1, (.const (.int .i64 3))))]), none⟩, ⟨(some 1), (.alc 57 (.agg #[(.int .i64 0), (.int .i64 0), (.int .i64 0)])), none⟩, ⟨none, (.stn 3 (.tmp 1) (.tmp 12)), none⟩])
    (.seq (.reg [⟨(some 13), (.ldn 3 (.tmp 1)), none⟩, ⟨(some 14), (.pcall 54 [(.tmp 13)]), none⟩, ⟨(some 15), (.mks 26 8 (.int .u64 0) (.tmp 14) (.tmp 14)), none⟩, ⟨(some 2), (.mv (.tmp 15)), none⟩])
    (.seq (.reg [⟨(some 16), (.mv (.tmp 2)), none⟩, ⟨(some 17), (.len (.tmp 16)), none⟩, ⟨(some 3), (.mv (.tmp 17)), none⟩])
    (.seq (.reg [⟨(some 18), (.mv (.tmp 2)), none⟩, ⟨(some 19), (.mv (.tmp 3)), none⟩, ⟨(some 20), (.ar .sub (.tmp 19) (.const (.int .i64 2))), none⟩, ⟨(some 21), (.mv (.tmp 2)), none⟩, ⟨(some 22), (.mv (.tmp 3)), none⟩, ⟨(some 23), (.ar .sub (.tmp 22) (.const (.int .i64 1))), none⟩, ⟨(some 24), (.bld #[(.int .i64 0), (.int .i64 0), (.int .i64 0)] [(2, (1, (.const (.int .i64 1))))]), none⟩, ⟨(some 25), (.pcall 95 [(.tmp 24)]), none⟩, ⟨(some 26), (.bld #[(.int .i64 0), (.int .i64 0), (.int .i64 0)] [(1, (1, (.const (.int .i64 5))))]), none⟩, ⟨(some 27), (.pcall 95 [(.tmp 26)]), none⟩, ⟨(some 28), (.iad 1 (.tmp 18) (.tmp 20)), none⟩, ⟨none, (.st1 (.tmp 28) (.tmp 25)), none⟩, ⟨(some 29), (.iad 1 (.tmp 21) (.tmp 23)), none⟩, ⟨none, (.st1 (.tmp 29) (.tmp 27)), none⟩])
    (.seq (.reg [⟨(some 30), (.mv (.tmp 2)), none⟩, ⟨(some 31), (.call 41 [(.tmp 30)]), none⟩, ⟨(some 4), (.mv (.tmp 31)), none⟩])
    (.seq (.draw (.take ⟨(some 32), (.ldn 3 (.tmp 1)), none⟩ (.take ⟨(some 34), (.ldn 3 (.tmp 1)), none⟩ (.take ⟨(some 36), (.bld #[(.int .i64 0), (.int .i64 0), (.int .i64 0)] [(0, (1, (.const (.int .i64 1)))), (1, (1, (.const (.int .i64 1))))]), none⟩ (.alt false ⟨(some 33), (.call 84 [(.tmp 32), (.const (.int .i64 0)), (.const (.int .i64 0))]), none⟩ (.alt false ⟨(some 35), (.call 85 [(.tmp 34), (.const (.int .i64 0)), (.const (.int .i64 0)), (.const (.int .i64 1)), (.const (.int .i64 0))]), none⟩ (.alt false ⟨(some 37), (.call 84 [(.tmp 36), (.const (.int .i64 0)), (.const (.int .i64 0))]), none⟩ (.take ⟨(some 5), (.mv (.tmp 33)), none⟩ (.take ⟨(some 6), (.mv (.tmp 35)), none⟩ (.take ⟨(some 7), (.mv (.tmp 37)), none⟩ .done))) .stop) .stop) .stop)))))
    (.seq (.seq
    (.reg [⟨(some 8), (.mv (.const (.int .i64 0))), none⟩])
    (.block 0
    (.loop (.seq
    (.seq (.reg [⟨(some 38), (.mv (.tmp 8)), none⟩, ⟨(some 39), (.cmp .lss (.tmp 38) (.const (.int .i64 4))), none⟩])
    (.cond (.tmp 39) .skip (.exit 0)))
    (.seq (.block 1
    (.reg [⟨(some 42), (.mv (.tmp 5)), none⟩, ⟨(some 43), (.mv (.tmp 4)), none⟩, ⟨(some 44), (.call 87 [(.tmp 42), (.tmp 43)]), none⟩]))
    (.reg [⟨(some 40), (.mv (.tmp 8)), none⟩, ⟨(some 41), (.ar .add (.tmp 40) (.const (.int .i64 1))), none⟩, ⟨(some 8), (.mv (.tmp 41)), none⟩]))))))
    (.seq (.reg [⟨(some 45), (.mv (.tmp 6)), none⟩, ⟨(some 46), (.mv (.tmp 4)), none⟩, ⟨(some 47), (.call 86 [(.tmp 45), (.tmp 46)]), none⟩])
    (.seq (.reg [⟨(some 48), (.mv (.tmp 6)), none⟩, ⟨(some 49), (.call 90 [(.tmp 48)]), none⟩, ⟨(some 9), (.mv (.tmp 49)), none⟩])
    (.seq (.reg [⟨(some 50), (.mv (.tmp 6)), none⟩, ⟨(some 51), (.mv (.tmp 4)), none⟩, ⟨(some 52), (.call 86 [(.tmp 50), (.tmp 51)]), none⟩])
    (.seq (.reg [⟨(some 53), (.mv (.tmp 5)), none⟩, ⟨(some 54), (.call 89 [(.tmp 53)]), none⟩, ⟨(some 55), (.mv (.tmp 54)), none⟩, ⟨(some 56), (.mv (.tmp 4)), (some (55, true))⟩, ⟨(some 57), (.call 34 [(.tmp 56)]), (some (55, true))⟩, ⟨(some 58), (.cmp .eql (.tmp 57) (.const (.int .i64 6))), (some (55, true))⟩, ⟨(some 59), (.pick (.tmp 55) (.tmp 58) (.const (.bool false))), none⟩, ⟨(some 60), (.mv (.tmp 59)), none⟩, ⟨(some 61), (.mv (.tmp 9)), (some (60, true))⟩, ⟨(some 62), (.nt (.tmp 61)), (some (60, true))⟩, ⟨(some 63), (.pick (.tmp 60) (.tmp 62) (.const (.bool false))), none⟩, ⟨(some 64), (.mv (.tmp 63)), none⟩, ⟨(some 65), (.mv (.tmp 6)), (some (64, true))⟩, ⟨(some 66), (.call 91 [(.tmp 65)]), (some (64, true))⟩, ⟨(some 67), (.pick (.tmp 64) (.tmp 66) (.const (.bool false))), none⟩, ⟨(some 68), (.mv (.tmp 67)), none⟩, ⟨(some 69), (.mv (.tmp 6)), (some (68, true))⟩, ⟨(some 70), (.call 90 [(.tmp 69)]), (some (68, true))⟩, ⟨(some 71), (.pick (.tmp 68) (.tmp 70) (.const (.bool false))), none⟩, ⟨(some 72), (.mv (.tmp 71)), none⟩, ⟨(some 73), (.mv (.tmp 7)), (some (72, true))⟩, ⟨(some 74), (.call 89 [(.tmp 73)]), (some (72, true))⟩, ⟨(some 75), (.pick (.tmp 72) (.tmp 74) (.const (.bool false))), none⟩, ⟨(some 76), (.mv (.tmp 75)), none⟩, ⟨(some 77), (.ldn 3 (.tmp 1)), (some (76, true))⟩, ⟨(some 78), (.call 85 [(.tmp 77), (.const (.int .i64 0)), (.const (.int .i64 1)), (.const (.int .i64 0)), (.const (.int .i64 0))]), (some (76, true))⟩, ⟨(some 79), (.call 90 [(.tmp 78)]), (some (76, true))⟩, ⟨(some 80), (.pick (.tmp 76) (.tmp 79) (.const (.bool false))), none⟩, ⟨(some 81), (.mv (.tmp 80)), none⟩, ⟨(some 82), (.ldn 3 (.tmp 1)), (some (81, true))⟩, ⟨(some 83), (.call 84 [(.tmp 82), (.const (.int .i64 1)), (.const (.int .i64 0))]), (some (81, true))⟩, ⟨(some 84), (.call 89 [(.tmp 83)]), (some (81, true))⟩, ⟨(some 85), (.pick (.tmp 81) (.tmp 84) (.const (.bool false))), none⟩, ⟨(some 0), (.mv (.tmp 85)), none⟩]) .ret)))))))))))))⟩ := by kernel_rfl

/-- allotment/allotmentlaw11.StripPlays -/
theorem tr20 : trF Try.prog pures Try.f20 = some
  ⟨88, [(.t 6)],
    (.seq (.reg [⟨(some 3), (.box 57 (.tmp 0)), none⟩, ⟨(some 5), (.box 95 (.tmp 2)), none⟩, ⟨(some 6), (.mv (.const (.bool false))), none⟩])
    (.seq (.seq
    (.reg [⟨(some 12), (.call 66 []), none⟩, ⟨(some 13), (.nt (.tmp 12)), none⟩])
    (.cond (.tmp 13)
    (.seq (.reg [⟨(some 6), (.mv (.const (.bool false))), none⟩]) .ret) .skip))
    (.seq (.seq
    (.reg [⟨(some 14), (.ldn 3 (.tmp 3)), none⟩, ⟨(some 15), (.mv (.tmp 1)), none⟩, ⟨(some 16), (.call 61 [(.tmp 14), (.tmp 15)]), none⟩, ⟨(some 17), (.nt (.tmp 16)), none⟩])
    (.cond (.tmp 17)
    (.seq (.reg [⟨(some 6), (.mv (.const (.bool true))), none⟩]) .ret) .skip))
    (.seq (.reg [⟨(some 18), (.mv (.tmp 1)), none⟩, ⟨(some 19), (.call 41 [(.tmp 18)]), none⟩, ⟨(some 20), (.mv (.tmp 1)), none⟩, ⟨(some 21), (.call 49 [(.tmp 20)]), none⟩, ⟨(some 7), (.mv (.tmp 19)), none⟩, ⟨(some 8), (.mv (.tmp 21)), none⟩])
    (.seq (.draw (.take ⟨(some 22), (.ldn 3 (.tmp 3)), none⟩ (.take ⟨(some 23), (.iadA 3 1 (.tmp 5) (.const (.int .i64 0))), none⟩ (.take ⟨(some 24), (.ld1 (.tmp 23)), none⟩ (.take ⟨(some 25), (.iadA 3 1 (.tmp 5) (.const (.int .i64 1))), none⟩ (.take ⟨(some 26), (.ld1 (.tmp 25)), none⟩ (.take ⟨(some 27), (.iadA 3 1 (.tmp 5) (.const (.int .i64 2))), none⟩ (.take ⟨(some 28), (.ld1 (.tmp 27)), none⟩ (.take ⟨(some 30), (.ldn 3 (.tmp 3)), none⟩ (.take ⟨(some 31), (.iadA 3 1 (.tmp 5) (.const (.int .i64 0))), none⟩ (.take ⟨(some 32), (.ld1 (.tmp 31)), none⟩ (.take ⟨(some 33), (.iadA 3 1 (.tmp 5) (.const (.int .i64 1))), none⟩ (.take ⟨(some 34), (.ld1 (.tmp 33)), none⟩ (.take ⟨(some 35), (.iadA 3 1 (.tmp 5) (.const (.int .i64 2))), none⟩ (.take ⟨(some 36), (.ld1 (.tmp 35)), none⟩ (.alt false ⟨(some 29), (.call 71 [(.tmp 22), (.tmp 24), (.tmp 26), (.tmp 28)]), none⟩ (.alt false ⟨(some 37), (.call 96 [(.tmp 30), (.tmp 32), (.tmp 34), (.tmp 36)]), none⟩ (.take ⟨(some 9), (.mv (.tmp 29)), none⟩ (.take ⟨(some 10), (.mv (.tmp 37)), none⟩ .done)) .stop) .stop))))))))))))))))
    (.seq (.seq
    (.reg [⟨(some 38), (.mv (.tmp 7)), none⟩, ⟨(some 39), (.pnil false (.tmp 38)), none⟩, ⟨(some 40), (.mv (.tmp 39)), none⟩, ⟨(some 41), (.mv (.tmp 9)), (some (40, false))⟩, ⟨(some 42), (.pnil false (.tmp 41)), (some (40, false))⟩, ⟨(some 43), (.pick (.tmp 40) (.const (.bool true)) (.tmp 42)), none⟩])
    (.cond (.tmp 43)
    (.seq (.reg [⟨(some 6), (.mv (.const (.bool false))), none⟩]) .ret) .skip))
    (.seq (.seq
    (.reg [⟨(some 11), (.mv (.const (.int .i64 0))), none⟩])
    (.block 0
    (.loop (.seq
    (.seq (.reg [⟨(some 44), (.mv (.tmp 11)), none⟩, ⟨(some 45), (.cmp .lss (.tmp 44) (.const (.int .i64 40))), none⟩])
    (.cond (.tmp 45) .skip (.exit 0)))
    (.seq (.block 1
    (.seq (.seq
    (.draw (.take ⟨(some 48), (.mv (.tmp 9)), none⟩ (.take ⟨(some 50), (.mv (.tmp 10)), none⟩ (.take ⟨(some 51), (.nilck (.tmp 50)), none⟩ (.take ⟨(some 52), (.fad 7 (.tmp 51)), none⟩ (.take ⟨(some 53), (.ld1 (.tmp 52)), none⟩ (.alt false ⟨(some 49), (.call 74 [(.tmp 48)]), none⟩ (.take ⟨(some 54), (.beq true (.tmp 49) (.tmp 53)), none⟩ .done) .stop)))))))
    (.cond (.tmp 54)
    (.seq (.reg [⟨(some 6), (.mv (.const (.bool false))), none⟩]) .ret) .skip))
    (.seq (.seq
    (.draw (.take ⟨(some 55), (.mv (.tmp 9)), none⟩ (.take ⟨(some 57), (.mv (.tmp 10)), none⟩ (.take ⟨(some 58), (.nilck (.tmp 57)), none⟩ (.take ⟨(some 59), (.fad 8 (.tmp 58)), none⟩ (.take ⟨(some 60), (.ld1 (.tmp 59)), none⟩ (.alt false ⟨(some 56), (.call 72 [(.tmp 55)]), none⟩ (.take ⟨(some 61), (.beq true (.tmp 56) (.tmp 60)), none⟩ .done) .stop)))))))
    (.cond (.tmp 61)
    (.seq (.reg [⟨(some 6), (.mv (.const (.bool false))), none⟩]) .ret) .skip))
    (.seq (.seq
    (.reg [⟨(some 62), (.mv (.tmp 9)), none⟩, ⟨(some 63), (.call 72 [(.tmp 62)]), none⟩])
    (.cond (.tmp 63) (.exit 0) .skip))
    (.seq (.reg [⟨(some 64), (.mv (.tmp 9)), none⟩, ⟨(some 65), (.mv (.tmp 7)), none⟩, ⟨(some 66), (.call 73 [(.tmp 64), (.tmp 65)]), none⟩])
    (.seq (.reg [⟨(some 67), (.mv (.tmp 10)), none⟩, ⟨(some 68), (.mv (.tmp 8)), none⟩, ⟨(some 69), (.call 97 [(.tmp 67), (.tmp 68)]), none⟩])
    (.seq (.reg [⟨(some 70), (.mv (.tmp 7)), none⟩, ⟨(some 71), (.mv (.tmp 8)), none⟩, ⟨(some 72), (.call 65 [(.tmp 70), (.tmp 71)]), none⟩, ⟨(some 73), (.nt (.tmp 72)), none⟩])
    (.cond (.tmp 73)
    (.seq (.reg [⟨(some 6), (.mv (.const (.bool false))), none⟩]) .ret) .skip))))))))
    (.reg [⟨(some 46), (.mv (.tmp 11)), none⟩, ⟨(some 47), (.ar .add (.tmp 46) (.const (.int .i64 1))), none⟩, ⟨(some 11), (.mv (.tmp 47)), none⟩]))))))
    (.seq (.reg [⟨(some 74), (.mv (.tmp 9)), none⟩, ⟨(some 75), (.mv (.tmp 7)), none⟩, ⟨(some 76), (.call 73 [(.tmp 74), (.tmp 75)]), none⟩])
    (.seq (.draw (.take ⟨(some 77), (.mv (.tmp 9)), none⟩ (.alt false ⟨(some 78), (.call 72 [(.tmp 77)]), none⟩ (.take ⟨(some 79), (.mv (.tmp 78)), none⟩ (.take ⟨(some 80), (.mv (.tmp 7)), (some (79, true))⟩ (.take ⟨(some 82), (.mv (.tmp 8)), (some (79, true))⟩ (.take ⟨(some 83), (.nilck (.tmp 82)), (some (79, true))⟩ (.take ⟨(some 84), (.fad 1 (.tmp 83)), (some (79, true))⟩ (.take ⟨(some 85), (.ld1 (.tmp 84)), (some (79, true))⟩ (.alt false ⟨(some 81), (.call 34 [(.tmp 80)]), (some (79, true))⟩ (.take ⟨(some 86), (.cmp .eql (.tmp 81) (.tmp 85)), (some (79, true))⟩ (.take ⟨(some 87), (.pick (.tmp 79) (.tmp 86) (.const (.bool false))), none⟩ (.take ⟨(some 6), (.mv (.tmp 87)), none⟩ .done))) .stop))))))) .stop))) .ret)))))))))⟩ := by kernel_rfl

/-- allotment/allotmentlaw9.SlotLoses -/
theorem tr21 : trF Try.prog pures Try.f21 = some
  ⟨130, [(.t 4)],
    (.seq (.reg [⟨(some 4), (.mv (.const (.bool false))), none⟩])
    (.seq (.seq
    (.reg [⟨(some 21), (.call 98 []), none⟩, ⟨(some 22), (.nt (.tmp 21)), none⟩])
    (.cond (.tmp 22)
    (.seq (.reg [⟨(some 4), (.mv (.const (.bool false))), none⟩]) .ret) .skip))
    (.seq (.reg [⟨(some 23), (.mv (.tmp 0)), none⟩, ⟨(some 24), (.cv .i64 (.tmp 23)), none⟩, ⟨(some 25), (.dv .rem (.tmp 24) (.const (.int .i64 4))), none⟩, ⟨(some 5), (.mv (.tmp 25)), none⟩])
    (.seq (.reg [⟨(some 26), (.mv (.tmp 5)), none⟩, ⟨(some 27), (.pcall 67 [(.tmp 26)]), none⟩, ⟨(some 6), (.mv (.tmp 27)), none⟩])
    (.seq (.reg [⟨(some 7), (.mv (.const (.slice none 0 0))), none⟩])
    (.seq (.reg [⟨(some 28), (.mv (.tmp 5)), none⟩, ⟨(some 29), (.bld #[(.int .i64 0), (.int .i64 0)] [(0, (1, (.const (.int .i64 1)))), (1, (1, (.tmp 28)))]), none⟩, ⟨(some 30), (.pcall 69 [(.tmp 29)]), none⟩, ⟨(some 8), (.mv (.tmp 30)), none⟩])
    (.seq (.seq
    (.reg [⟨(some 9), (.mv (.const (.int .i64 0))), none⟩])
    (.block 0
    (.loop (.seq
    (.seq (.reg [⟨(some 31), (.mv (.tmp 9)), none⟩, ⟨(some 32), (.mv (.tmp 6)), none⟩, ⟨(some 33), (.cmp .lss (.tmp 31) (.tmp 32)), none⟩])
    (.cond (.tmp 33) .skip (.exit 0)))
    (.seq (.block 1
    (.reg [⟨(some 36), (.mv (.tmp 7)), none⟩, ⟨(some 37), (.mv (.tmp 8)), none⟩, ⟨(some 38), (.bsl 26 #[(.int .u64 0)] 1 1 [(0, (.tmp 37))]), none⟩, ⟨(some 39), (.app 26 1 8 #[(.int .u64 0)] (.tmp 36) (.tmp 38)), none⟩, ⟨(some 7), (.mv (.tmp 39)), none⟩]))
    (.reg [⟨(some 34), (.mv (.tmp 9)), none⟩, ⟨(some 35), (.ar .add (.tmp 34) (.const (.int .i64 1))), none⟩, ⟨(some 9), (.mv (.tmp 35)), none⟩]))))))
    (.seq (.reg [⟨(some 41), (.mv (.tmp 5)), none⟩, ⟨(some 42), (.mv (.tmp 7)), none⟩, ⟨(some 43), (.call 70 [(.tmp 41), (.tmp 42)]), none⟩, ⟨(some 40), (.mv (.tmp 43)), none⟩, ⟨(some 44), (.ext 0 (.tmp 40)), none⟩, ⟨(some 45), (.ext 1 (.tmp 40)), none⟩, ⟨(some 10), (.alc 57 (.agg #[(.int .i64 0), (.int .i64 0), (.int .i64 0)])), none⟩, ⟨none, (.stn 3 (.tmp 10) (.tmp 44)), none⟩, ⟨(some 11), (.mv (.tmp 45)), none⟩])
    (.seq (.reg [⟨(some 46), (.mv (.tmp 11)), none⟩, ⟨(some 47), (.call 41 [(.tmp 46)]), none⟩, ⟨(some 12), (.mv (.tmp 47)), none⟩])
    (.seq (.reg [⟨(some 48), (.ldn 3 (.tmp 10)), none⟩, ⟨(some 49), (.mv (.tmp 5)), none⟩, ⟨(some 50), (.call 99 [(.tmp 48), (.const (.int .i64 0)), (.tmp 49), (.const (.int .i64 0))]), none⟩, ⟨(some 13), (.mv (.tmp 50)), none⟩])
    (.seq (.seq
    (.reg [⟨(some 51), (.mv (.tmp 12)), none⟩, ⟨(some 52), (.pnil false (.tmp 51)), none⟩, ⟨(some 53), (.mv (.tmp 52)), none⟩, ⟨(some 54), (.mv (.tmp 13)), (some (53, false))⟩, ⟨(some 55), (.pnil false (.tmp 54)), (some (53, false))⟩, ⟨(some 56), (.pick (.tmp 53) (.const (.bool true)) (.tmp 55)), none⟩])
    (.cond (.tmp 56)
    (.seq (.reg [⟨(some 4), (.mv (.const (.bool false))), none⟩]) .ret) .skip))
    (.seq (.reg [⟨(some 57), (.mv (.tmp 13)), none⟩, ⟨(some 58), (.mv (.tmp 12)), none⟩, ⟨(some 59), (.call 100 [(.tmp 57), (.tmp 58)]), none⟩])
    (.seq (.seq
    (.reg [⟨(some 14), (.mv (.const (.int .i64 0))), none⟩])
    (.block 2
    (.loop (.seq
    (.seq (.reg [⟨(some 60), (.mv (.tmp 14)), none⟩, ⟨(some 61), (.mv (.tmp 6)), none⟩, ⟨(some 62), (.cmp .lss (.tmp 60) (.tmp 61)), none⟩])
    (.cond (.tmp 62) .skip (.exit 2)))
    (.seq (.block 3
    (.seq (.reg [⟨(some 65), (.mv (.tmp 13)), none⟩, ⟨(some 66), (.mv (.tmp 12)), none⟩, ⟨(some 67), (.call 100 [(.tmp 65), (.tmp 66)]), none⟩])
    (.seq (.seq
    (.reg [⟨(some 68), (.mv (.tmp 1)), none⟩, ⟨(some 69), (.mv (.tmp 14)), none⟩, ⟨(some 70), (.cv .u64 (.tmp 69)), none⟩, ⟨(some 71), (.sh .shr (.tmp 68) (.tmp 70)), none⟩, ⟨(some 72), (.bt .and (.tmp 71) (.const (.int .u16 1))), none⟩, ⟨(some 73), (.cmp .eql (.tmp 72) (.const (.int .u16 1))), none⟩])
    (.cond (.tmp 73)
    (.seq (.reg [⟨(some 74), (.mv (.tmp 13)), none⟩, ⟨(some 75), (.mv (.tmp 12)), none⟩, ⟨(some 76), (.call 100 [(.tmp 74), (.tmp 75)]), none⟩])
    (.seq (.reg [⟨(some 78), (.mv (.tmp 13)), none⟩, ⟨(some 79), (.call 101 [(.tmp 78)]), none⟩, ⟨(some 77), (.mv (.tmp 79)), none⟩, ⟨(some 80), (.ext 0 (.tmp 77)), none⟩, ⟨(some 81), (.ext 1 (.tmp 77)), none⟩, ⟨(some 82), (.ext 2 (.tmp 77)), none⟩, ⟨(some 15), (.mv (.tmp 80)), none⟩, ⟨(some 16), (.mv (.tmp 81)), none⟩, ⟨(some 17), (.mv (.tmp 82)), none⟩])
    (.seq (.reg [⟨(some 83), (.mv (.tmp 13)), none⟩, ⟨(some 84), (.call 102 [(.tmp 83)]), none⟩, ⟨(some 85), (.mv (.tmp 84)), none⟩, ⟨(some 86), (.mv (.tmp 17)), (some (85, true))⟩, ⟨(some 87), (.pick (.tmp 85) (.tmp 86) (.const (.bool false))), none⟩, ⟨(some 88), (.mv (.tmp 87)), none⟩, ⟨(some 89), (.mv (.tmp 16)), (some (88, true))⟩, ⟨(some 90), (.mv (.tmp 14)), (some (88, true))⟩, ⟨(some 91), (.cmp .eql (.tmp 89) (.tmp 90)), (some (88, true))⟩, ⟨(some 92), (.pick (.tmp 88) (.tmp 91) (.const (.bool false))), none⟩, ⟨(some 93), (.mv (.tmp 92)), none⟩, ⟨(some 94), (.mv (.tmp 12)), (some (93, true))⟩, ⟨(some 95), (.call 34 [(.tmp 94)]), (some (93, true))⟩, ⟨(some 96), (.mv (.tmp 14)), (some (93, true))⟩, ⟨(some 97), (.ar .mul (.const (.int .i64 2)) (.tmp 96)), (some (93, true))⟩, ⟨(some 98), (.ar .add (.const (.int .i64 3)) (.tmp 97)), (some (93, true))⟩, ⟨(some 99), (.cmp .eql (.tmp 95) (.tmp 98)), (some (93, true))⟩, ⟨(some 100), (.pick (.tmp 93) (.tmp 99) (.const (.bool false))), none⟩, ⟨(some 4), (.mv (.tmp 100)), none⟩]) .ret))) .skip))
    (.seq (.reg [⟨(some 101), (.mv (.tmp 12)), none⟩, ⟨(some 102), (.mv (.tmp 14)), none⟩, ⟨(some 103), (.ar .add (.const (.int .i64 3)) (.tmp 102)), none⟩, ⟨(some 104), (.bld #[(.int .i64 0), (.int .i64 0)] [(0, (1, (.const (.int .i64 2)))), (1, (1, (.const (.int .i64 1))))]), none⟩, ⟨(some 105), (.pcall 69 [(.tmp 104)]), none⟩, ⟨(some 106), (.call 47 [(.tmp 101), (.tmp 103), (.tmp 105)]), none⟩])
    (.reg [⟨(some 107), (.mv (.tmp 13)), none⟩, ⟨(some 108), (.mv (.tmp 12)), none⟩, ⟨(some 109), (.call 100 [(.tmp 107), (.tmp 108)]), none⟩])))))
    (.reg [⟨(some 63), (.mv (.tmp 14)), none⟩, ⟨(some 64), (.ar .add (.tmp 63) (.const (.int .i64 1))), none⟩, ⟨(some 14), (.mv (.tmp 64)), none⟩]))))))
    (.seq (.reg [⟨(some 111), (.mv (.tmp 13)), none⟩, ⟨(some 112), (.call 101 [(.tmp 111)]), none⟩, ⟨(some 110), (.mv (.tmp 112)), none⟩, ⟨(some 113), (.ext 0 (.tmp 110)), none⟩, ⟨(some 114), (.ext 1 (.tmp 110)), none⟩, ⟨(some 115), (.ext 2 (.tmp 110)), none⟩, ⟨(some 18), (.mv (.tmp 113)), none⟩, ⟨(some 19), (.mv (.tmp 114)), none⟩, ⟨(some 20), (.mv (.tmp 115)), none⟩])
    (.seq (.reg [⟨(some 116), (.mv (.tmp 13)), none⟩, ⟨(some 117), (.call 102 [(.tmp 116)]), none⟩, ⟨(some 118), (.mv (.tmp 117)), none⟩, ⟨(some 119), (.mv (.tmp 20)), (some (118, true))⟩, ⟨(some 120), (.nt (.tmp 119)), (some (118, true))⟩, ⟨(some 121), (.pick (.tmp 118) (.tmp 120) (.const (.bool false))), none⟩, ⟨(some 122), (.mv (.tmp 121)), none⟩, ⟨(some 123), (.mv (.tmp 12)), (some (122, true))⟩, ⟨(some 124), (.call 34 [(.tmp 123)]), (some (122, true))⟩, ⟨(some 125), (.mv (.tmp 6)), (some (122, true))⟩, ⟨(some 126), (.ar .mul (.const (.int .i64 2)) (.tmp 125)), (some (122, true))⟩, ⟨(some 127), (.ar .add (.const (.int .i64 1)) (.tmp 126)), (some (122, true))⟩, ⟨(some 128), (.cmp .eql (.tmp 124) (.tmp 127)), (some (122, true))⟩, ⟨(some 129), (.pick (.tmp 122) (.tmp 128) (.const (.bool false))), none⟩, ⟨(some 4), (.mv (.tmp 129)), none⟩]) .ret)))))))))))))))⟩ := by kernel_rfl

/-- allotment/allotmentlaw9.SlotMany -/
theorem tr22 : trF Try.prog pures Try.f22 = some
  ⟨21, [(.t 6)],
    (.seq (.reg [⟨(some 4), (.box 54 (.tmp 1)), none⟩, ⟨(some 6), (.mv (.const (.bool false))), none⟩])
    (.seq (.seq
    (.reg [⟨(some 7), (.call 98 []), none⟩, ⟨(some 8), (.nt (.tmp 7)), none⟩])
    (.cond (.tmp 8)
    (.seq (.reg [⟨(some 6), (.mv (.const (.bool false))), none⟩]) .ret) .skip))
    (.seq (.reg [⟨(some 9), (.iadA 2 1 (.tmp 4) (.const (.int .i64 0))), none⟩, ⟨(some 10), (.ld1 (.tmp 9)), none⟩, ⟨(some 11), (.cv .i64 (.tmp 10)), none⟩, ⟨(some 12), (.dv .rem (.tmp 11) (.const (.int .i64 4))), none⟩, ⟨(some 13), (.mv (.tmp 0)), none⟩, ⟨(some 14), (.iadA 2 1 (.tmp 4) (.const (.int .i64 1))), none⟩, ⟨(some 15), (.ld1 (.tmp 14)), none⟩, ⟨(some 16), (.cv .i64 (.tmp 15)), none⟩, ⟨(some 17), (.dv .rem (.tmp 16) (.const (.int .i64 10))), none⟩, ⟨(some 18), (.ar .add (.const (.int .i64 1)) (.tmp 17)), none⟩, ⟨(some 19), (.mv (.tmp 2)), none⟩, ⟨(some 20), (.call 103 [(.tmp 12), (.tmp 13), (.tmp 18), (.tmp 19)]), none⟩, ⟨(some 6), (.mv (.tmp 20)), none⟩]) .ret)))⟩ := by kernel_rfl

/-- allotment/allotmentlaw9.SlotFirst -/
theorem tr23 : trF Try.prog pures Try.f23 = some
  ⟨191, [(.t 6)],
    (.seq (.reg [⟨(some 3), (.box 57 (.tmp 0)), none⟩, ⟨(some 5), (.box 95 (.tmp 2)), none⟩, ⟨(some 6), (.mv (.const (.bool false))), none⟩])
    (.seq (.seq
    (.reg [⟨(some 23), (.call 98 []), none⟩, ⟨(some 24), (.nt (.tmp 23)), none⟩])
    (.cond (.tmp 24)
    (.seq (.reg [⟨(some 6), (.mv (.const (.bool false))), none⟩]) .ret) .skip))
    (.seq (.seq
    (.reg [⟨(some 25), (.ldn 3 (.tmp 3)), none⟩, ⟨(some 26), (.mv (.tmp 1)), none⟩, ⟨(some 27), (.call 61 [(.tmp 25), (.tmp 26)]), none⟩, ⟨(some 28), (.nt (.tmp 27)), none⟩, ⟨(some 29), (.mv (.tmp 28)), none⟩, ⟨(some 30), (.ldn 3 (.tmp 3)), (some (29, false))⟩, ⟨(some 31), (.iadA 3 1 (.tmp 5) (.const (.int .i64 0))), (some (29, false))⟩, ⟨(some 32), (.ld1 (.tmp 31)), (some (29, false))⟩, ⟨(some 33), (.pcall 62 [(.tmp 30), (.tmp 32)]), (some (29, false))⟩, ⟨(some 34), (.cmp .lss (.tmp 33) (.const (.int .i64 0))), (some (29, false))⟩, ⟨(some 35), (.pick (.tmp 29) (.const (.bool true)) (.tmp 34)), none⟩, ⟨(some 36), (.mv (.tmp 35)), none⟩, ⟨(some 37), (.ldn 3 (.tmp 3)), (some (36, false))⟩, ⟨(some 38), (.iadA 3 1 (.tmp 5) (.const (.int .i64 2))), (some (36, false))⟩, ⟨(some 39), (.ld1 (.tmp 38)), (some (36, false))⟩, ⟨(some 40), (.pcall 60 [(.tmp 37), (.tmp 39)]), (some (36, false))⟩, ⟨(some 41), (.cmp .lss (.tmp 40) (.const (.int .i64 0))), (some (36, false))⟩, ⟨(some 42), (.pick (.tmp 36) (.const (.bool true)) (.tmp 41)), none⟩])
    (.cond (.tmp 42)
    (.seq (.reg [⟨(some 6), (.mv (.const (.bool true))), none⟩]) .ret) .skip))
    (.seq (.reg [⟨(some 43), (.iadA 3 1 (.tmp 5) (.const (.int .i64 1))), none⟩, ⟨(some 44), (.ld1 (.tmp 43)), none⟩, ⟨(some 45), (.dv .rem (.tmp 44) (.const (.int .i64 4))), none⟩, ⟨(some 46), (.ar .add (.tmp 45) (.const (.int .i64 4))), none⟩, ⟨(some 47), (.dv .rem (.tmp 46) (.const (.int .i64 4))), none⟩, ⟨(some 7), (.mv (.tmp 47)), none⟩])
    (.seq (.reg [⟨(some 48), (.mv (.tmp 1)), none⟩, ⟨(some 49), (.call 41 [(.tmp 48)]), none⟩, ⟨(some 8), (.mv (.tmp 49)), none⟩])
    (.seq (.reg [⟨(some 50), (.ldn 3 (.tmp 3)), none⟩, ⟨(some 51), (.iadA 3 1 (.tmp 5) (.const (.int .i64 0))), none⟩, ⟨(some 52), (.ld1 (.tmp 51)), none⟩, ⟨(some 53), (.mv (.tmp 7)), none⟩, ⟨(some 54), (.iadA 3 1 (.tmp 5) (.const (.int .i64 2))), none⟩, ⟨(some 55), (.ld1 (.tmp 54)), none⟩, ⟨(some 56), (.call 99 [(.tmp 50), (.tmp 52), (.tmp 53), (.tmp 55)]), none⟩, ⟨(some 9), (.mv (.tmp 56)), none⟩])
    (.seq (.seq
    (.reg [⟨(some 57), (.mv (.tmp 8)), none⟩, ⟨(some 58), (.pnil false (.tmp 57)), none⟩, ⟨(some 59), (.mv (.tmp 58)), none⟩, ⟨(some 60), (.mv (.tmp 9)), (some (59, false))⟩, ⟨(some 61), (.pnil false (.tmp 60)), (some (59, false))⟩, ⟨(some 62), (.pick (.tmp 59) (.const (.bool true)) (.tmp 61)), none⟩])
    (.cond (.tmp 62)
    (.seq (.reg [⟨(some 6), (.mv (.const (.bool false))), none⟩]) .ret) .skip))
    (.seq (.reg [⟨(some 10), (.mv (.const (.int .i64 (-1)))), none⟩, ⟨(some 11), (.mv (.const (.int .i64 (-1)))), none⟩])
    (.seq (.seq
    (.reg [⟨(some 63), (.fad 0 (.tmp 3)), none⟩, ⟨(some 64), (.ld1 (.tmp 63)), none⟩, ⟨(some 65), (.ar .sub (.tmp 64) (.const (.int .i64 1))), none⟩, ⟨(some 12), (.mv (.tmp 65)), none⟩])
    (.block 0
    (.loop (.seq
    (.seq (.reg [⟨(some 66), (.mv (.tmp 12)), none⟩, ⟨(some 67), (.cmp .geq (.tmp 66) (.const (.int .i64 0))), none⟩])
    (.cond (.tmp 67) .skip (.exit 0)))
    (.seq (.block 1
    (.seq (.reg [⟨(some 70), (.iadA 3 1 (.tmp 5) (.const (.int .i64 2))), none⟩, ⟨(some 71), (.ld1 (.tmp 70)), none⟩, ⟨(some 72), (.mv (.tmp 12)), none⟩, ⟨(some 73), (.ar .add (.tmp 71) (.tmp 72)), none⟩, ⟨(some 74), (.fad 0 (.tmp 3)), none⟩, ⟨(some 75), (.ld1 (.tmp 74)), none⟩, ⟨(some 76), (.dv .rem (.tmp 73) (.tmp 75)), none⟩, ⟨(some 13), (.mv (.tmp 76)), none⟩])
    (.seq (.draw (.take ⟨(some 78), (.ldn 3 (.tmp 3)), none⟩ (.take ⟨(some 79), (.mv (.tmp 13)), none⟩ (.take ⟨(some 80), (.mv (.tmp 1)), none⟩ (.take ⟨(some 81), (.ldn 3 (.tmp 3)), none⟩ (.take ⟨(some 82), (.mv (.tmp 13)), none⟩ (.alt false ⟨(some 83), (.pcall 60 [(.tmp 81), (.tmp 82)]), none⟩ (.take ⟨(some 84), (.iad 1 (.tmp 80) (.tmp 83)), none⟩ (.take ⟨(some 85), (.ld1 (.tmp 84)), none⟩ (.alt false ⟨(some 86), (.pcall 104 [(.tmp 78), (.tmp 79), (.tmp 85)]), none⟩ (.take ⟨(some 77), (.mv (.tmp 86)), none⟩ (.take ⟨(some 87), (.ext 0 (.tmp 77)), none⟩ (.take ⟨(some 88), (.ext 1 (.tmp 77)), none⟩ (.alt false ⟨(some 14), (.alc 68 (.agg #[(.int .i64 0), (.int .i64 0), (.int .i64 0)])), none⟩ (.alt false ⟨none, (.stn 3 (.tmp 14) (.tmp 87)), none⟩ (.take ⟨(some 15), (.mv (.tmp 88)), none⟩ .done) .stop) .stop)))) (.alt false ⟨(some 14), (.alc 68 (.agg #[(.int .i64 0), (.int .i64 0), (.int .i64 0)])), none⟩ (.alt false ⟨(some 86), (.pcall 104 [(.tmp 78), (.tmp 79), (.tmp 85)]), none⟩ (.take ⟨(some 77), (.mv (.tmp 86)), none⟩ (.take ⟨(some 87), (.ext 0 (.tmp 77)), none⟩ (.take ⟨(some 88), (.ext 1 (.tmp 77)), none⟩ (.alt false ⟨none, (.stn 3 (.tmp 14) (.tmp 87)), none⟩ (.take ⟨(some 15), (.mv (.tmp 88)), none⟩ .done) .stop)))) .stop) .stop)))) (.alt false ⟨(some 14), (.alc 68 (.agg #[(.int .i64 0), (.int .i64 0), (.int .i64 0)])), none⟩ (.alt false ⟨(some 83), (.pcall 60 [(.tmp 81), (.tmp 82)]), none⟩ (.take ⟨(some 84), (.iad 1 (.tmp 80) (.tmp 83)), none⟩ (.take ⟨(some 85), (.ld1 (.tmp 84)), none⟩ (.alt false ⟨(some 86), (.pcall 104 [(.tmp 78), (.tmp 79), (.tmp 85)]), none⟩ (.take ⟨(some 77), (.mv (.tmp 86)), none⟩ (.take ⟨(some 87), (.ext 0 (.tmp 77)), none⟩ (.take ⟨(some 88), (.ext 1 (.tmp 77)), none⟩ (.alt false ⟨none, (.stn 3 (.tmp 14) (.tmp 87)), none⟩ (.take ⟨(some 15), (.mv (.tmp 88)), none⟩ .done) .stop)))) .stop))) .stop) .stop))))))))
    (.seq (.reg [⟨(some 89), (.mv (.tmp 7)), none⟩, ⟨(some 90), (.pcall 67 [(.tmp 89)]), none⟩, ⟨(some 91), (.ar .sub (.tmp 90) (.const (.int .i64 1))), none⟩, ⟨(some 16), (.mv (.tmp 91)), none⟩])
    (.block 2
    (.loop (.seq
    (.seq (.reg [⟨(some 92), (.mv (.tmp 16)), none⟩, ⟨(some 93), (.cmp .geq (.tmp 92) (.const (.int .i64 0))), none⟩, ⟨(some 94), (.mv (.tmp 93)), none⟩, ⟨(some 95), (.mv (.tmp 15)), (some (94, true))⟩, ⟨(some 96), (.pick (.tmp 94) (.tmp 95) (.const (.bool false))), none⟩, ⟨(some 97), (.mv (.tmp 96)), none⟩, ⟨(some 98), (.fad 0 (.tmp 14)), (some (97, true))⟩, ⟨(some 99), (.ld1 (.tmp 98)), (some (97, true))⟩, ⟨(some 100), (.cmp .eql (.tmp 99) (.const (.int .i64 2))), (some (97, true))⟩, ⟨(some 101), (.pick (.tmp 97) (.tmp 100) (.const (.bool false))), none⟩, ⟨(some 102), (.mv (.tmp 101)), none⟩, ⟨(some 103), (.fad 1 (.tmp 14)), (some (102, true))⟩, ⟨(some 104), (.ld1 (.tmp 103)), (some (102, true))⟩, ⟨(some 105), (.mv (.tmp 7)), (some (102, true))⟩, ⟨(some 106), (.cmp .eql (.tmp 104) (.tmp 105)), (some (102, true))⟩, ⟨(some 107), (.pick (.tmp 102) (.tmp 106) (.const (.bool false))), none⟩])
    (.cond (.tmp 107) .skip (.exit 2)))
    (.seq (.block 3
    (.seq (.reg [⟨(some 110), (.mv (.tmp 1)), none⟩, ⟨(some 111), (.ldn 3 (.tmp 3)), none⟩, ⟨(some 112), (.mv (.tmp 13)), none⟩, ⟨(some 113), (.mv (.tmp 16)), none⟩, ⟨(some 114), (.pcall 105 [(.tmp 111), (.tmp 112), (.tmp 113)]), none⟩, ⟨(some 115), (.iad 1 (.tmp 110) (.tmp 114)), none⟩, ⟨(some 116), (.ld1 (.tmp 115)), none⟩, ⟨(some 117), (.mv (.tmp 7)), none⟩, ⟨(some 118), (.bld #[(.int .i64 0), (.int .i64 0)] [(0, (1, (.const (.int .i64 1)))), (1, (1, (.tmp 117)))]), none⟩, ⟨(some 119), (.pcall 69 [(.tmp 118)]), none⟩, ⟨(some 120), (.cmp .eql (.tmp 116) (.tmp 119)), none⟩])
    (.cond (.tmp 120)
    (.reg [⟨(some 121), (.mv (.tmp 13)), none⟩, ⟨(some 122), (.mv (.tmp 16)), none⟩, ⟨(some 10), (.mv (.tmp 121)), none⟩, ⟨(some 11), (.mv (.tmp 122)), none⟩]) .skip)))
    (.reg [⟨(some 108), (.mv (.tmp 16)), none⟩, ⟨(some 109), (.ar .sub (.tmp 108) (.const (.int .i64 1))), none⟩, ⟨(some 16), (.mv (.tmp 109)), none⟩])))))))))
    (.reg [⟨(some 68), (.mv (.tmp 12)), none⟩, ⟨(some 69), (.ar .sub (.tmp 68) (.const (.int .i64 1))), none⟩, ⟨(some 12), (.mv (.tmp 69)), none⟩]))))))
    (.seq (.seq
    (.reg [⟨(some 17), (.mv (.const (.int .i64 0))), none⟩])
    (.block 4
    (.loop (.seq
    (.seq (.reg [⟨(some 123), (.mv (.tmp 17)), none⟩, ⟨(some 124), (.fad 0 (.tmp 3)), none⟩, ⟨(some 125), (.ld1 (.tmp 124)), none⟩, ⟨(some 126), (.ar .mul (.const (.int .i64 33)) (.tmp 125)), none⟩, ⟨(some 127), (.ar .add (.tmp 126) (.const (.int .i64 2))), none⟩, ⟨(some 128), (.cmp .lss (.tmp 123) (.tmp 127)), none⟩])
    (.cond (.tmp 128) .skip (.exit 4)))
    (.seq (.block 5
    (.reg [⟨(some 131), (.mv (.tmp 9)), none⟩, ⟨(some 132), (.mv (.tmp 8)), none⟩, ⟨(some 133), (.call 100 [(.tmp 131), (.tmp 132)]), none⟩]))
    (.reg [⟨(some 129), (.mv (.tmp 17)), none⟩, ⟨(some 130), (.ar .add (.tmp 129) (.const (.int .i64 1))), none⟩, ⟨(some 17), (.mv (.tmp 130)), none⟩]))))))
    (.seq (.reg [⟨(some 135), (.mv (.tmp 9)), none⟩, ⟨(some 136), (.call 101 [(.tmp 135)]), none⟩, ⟨(some 134), (.mv (.tmp 136)), none⟩, ⟨(some 137), (.ext 0 (.tmp 134)), none⟩, ⟨(some 138), (.ext 1 (.tmp 134)), none⟩, ⟨(some 139), (.ext 2 (.tmp 134)), none⟩, ⟨(some 18), (.mv (.tmp 137)), none⟩, ⟨(some 19), (.mv (.tmp 138)), none⟩, ⟨(some 20), (.mv (.tmp 139)), none⟩])
    (.seq (.seq
    (.reg [⟨(some 140), (.mv (.tmp 9)), none⟩, ⟨(some 141), (.call 102 [(.tmp 140)]), none⟩, ⟨(some 142), (.nt (.tmp 141)), none⟩, ⟨(some 143), (.mv (.tmp 142)), none⟩, ⟨(some 144), (.mv (.tmp 20)), (some (143, false))⟩, ⟨(some 145), (.mv (.tmp 10)), (some (143, false))⟩, ⟨(some 146), (.cmp .geq (.tmp 145) (.const (.int .i64 0))), (some (143, false))⟩, ⟨(some 147), (.beq true (.tmp 144) (.tmp 146)), (some (143, false))⟩, ⟨(some 148), (.pick (.tmp 143) (.const (.bool true)) (.tmp 147)), none⟩, ⟨(some 149), (.mv (.tmp 148)), none⟩, ⟨(some 150), (.mv (.tmp 20)), (some (149, false))⟩, ⟨(some 151), (.mv (.tmp 150)), (some (149, false))⟩, ⟨(some 152), (.mv (.tmp 18)), (some (151, true))⟩, ⟨(some 153), (.mv (.tmp 10)), (some (151, true))⟩, ⟨(some 154), (.cmp .neq (.tmp 152) (.tmp 153)), (some (151, true))⟩, ⟨(some 155), (.mv (.tmp 154)), (some (151, true))⟩, ⟨(some 156), (.mv (.tmp 19)), (some (155, false))⟩, ⟨(some 157), (.mv (.tmp 11)), (some (155, false))⟩, ⟨(some 158), (.cmp .neq (.tmp 156) (.tmp 157)), (some (155, false))⟩, ⟨(some 159), (.pick (.tmp 155) (.const (.bool true)) (.tmp 158)), (some (151, true))⟩, ⟨(some 160), (.pick (.tmp 151) (.tmp 159) (.const (.bool false))), (some (149, false))⟩, ⟨(some 161), (.pick (.tmp 149) (.const (.bool true)) (.tmp 160)), none⟩])
    (.cond (.tmp 161)
    (.seq (.reg [⟨(some 6), (.mv (.const (.bool false))), none⟩]) .ret) .skip))
    (.seq (.reg [⟨(some 162), (.mv (.tmp 8)), none⟩, ⟨(some 163), (.call 42 [(.tmp 162)]), none⟩, ⟨(some 21), (.mv (.tmp 163)), none⟩])
    (.seq (.seq
    (.reg [⟨(some 22), (.mv (.const (.int .i64 0))), none⟩])
    (.block 6
    (.loop (.seq
    (.seq (.reg [⟨(some 164), (.mv (.tmp 22)), none⟩, ⟨(some 165), (.mv (.tmp 1)), none⟩, ⟨(some 166), (.len (.tmp 165)), none⟩, ⟨(some 167), (.cmp .lss (.tmp 164) (.tmp 166)), none⟩])
    (.cond (.tmp 167) .skip (.exit 6)))
    (.seq (.block 7
    (.seq (.reg [⟨(some 170), (.mv (.tmp 21)), none⟩, ⟨(some 171), (.mv (.tmp 22)), none⟩, ⟨(some 172), (.iad 1 (.tmp 170) (.tmp 171)), none⟩, ⟨(some 173), (.ld1 (.tmp 172)), none⟩, ⟨(some 174), (.mv (.tmp 1)), none⟩, ⟨(some 175), (.mv (.tmp 22)), none⟩, ⟨(some 176), (.iad 1 (.tmp 174) (.tmp 175)), none⟩, ⟨(some 177), (.ld1 (.tmp 176)), none⟩, ⟨(some 178), (.cmp .neq (.tmp 173) (.tmp 177)), none⟩, ⟨(some 179), (.mv (.tmp 178)), none⟩, ⟨(some 180), (.mv (.tmp 20)), (some (179, true))⟩, ⟨(some 181), (.mv (.tmp 180)), (some (179, true))⟩, ⟨(some 182), (.mv (.tmp 22)), (some (181, true))⟩, ⟨(some 183), (.ldn 3 (.tmp 3)), (some (181, true))⟩, ⟨(some 184), (.mv (.tmp 10)), (some (181, true))⟩, ⟨(some 185), (.mv (.tmp 11)), (some (181, true))⟩, ⟨(some 186), (.pcall 105 [(.tmp 183), (.tmp 184), (.tmp 185)]), (some (181, true))⟩, ⟨(some 187), (.cmp .eql (.tmp 182) (.tmp 186)), (some (181, true))⟩, ⟨(some 188), (.pick (.tmp 181) (.tmp 187) (.const (.bool false))), (some (179, true))⟩, ⟨(some 189), (.nt (.tmp 188)), (some (179, true))⟩, ⟨(some 190), (.pick (.tmp 179) (.tmp 189) (.const (.bool false))), none⟩])
    (.cond (.tmp 190)
    (.seq (.reg [⟨(some 6), (.mv (.const (.bool false))), none⟩]) .ret) .skip)))
    (.reg [⟨(some 168), (.mv (.tmp 22)), none⟩, ⟨(some 169), (.ar .add (.tmp 168) (.const (.int .i64 1))), none⟩, ⟨(some 22), (.mv (.tmp 169)), none⟩]))))))
    (.seq (.reg [⟨(some 6), (.mv (.const (.bool true))), none⟩]) .ret)))))))))))))))⟩ := by kernel_rfl

/-- allotment/allotmentlaw9.SlotClaims -/
theorem tr24 : trF Try.prog pures Try.f24 = some
  ⟨129, [(.t 6)],
    (.seq (.reg [⟨(some 3), (.box 57 (.tmp 0)), none⟩, ⟨(some 5), (.box 95 (.tmp 2)), none⟩, ⟨(some 6), (.mv (.const (.bool false))), none⟩])
    (.seq (.seq
    (.reg [⟨(some 15), (.call 98 []), none⟩, ⟨(some 16), (.nt (.tmp 15)), none⟩])
    (.cond (.tmp 16)
    (.seq (.reg [⟨(some 6), (.mv (.const (.bool false))), none⟩]) .ret) .skip))
    (.seq (.seq
    (.reg [⟨(some 17), (.ldn 3 (.tmp 3)), none⟩, ⟨(some 18), (.mv (.tmp 1)), none⟩, ⟨(some 19), (.call 61 [(.tmp 17), (.tmp 18)]), none⟩, ⟨(some 20), (.nt (.tmp 19)), none⟩])
    (.cond (.tmp 20)
    (.seq (.reg [⟨(some 6), (.mv (.const (.bool true))), none⟩]) .ret) .skip))
    (.seq (.reg [⟨(some 21), (.mv (.tmp 1)), none⟩, ⟨(some 22), (.call 41 [(.tmp 21)]), none⟩, ⟨(some 23), (.mv (.tmp 1)), none⟩, ⟨(some 24), (.call 49 [(.tmp 23)]), none⟩, ⟨(some 7), (.mv (.tmp 22)), none⟩, ⟨(some 8), (.mv (.tmp 24)), none⟩])
    (.seq (.draw (.take ⟨(some 25), (.ldn 3 (.tmp 3)), none⟩ (.take ⟨(some 26), (.iadA 3 1 (.tmp 5) (.const (.int .i64 0))), none⟩ (.take ⟨(some 27), (.ld1 (.tmp 26)), none⟩ (.take ⟨(some 28), (.iadA 3 1 (.tmp 5) (.const (.int .i64 1))), none⟩ (.take ⟨(some 29), (.ld1 (.tmp 28)), none⟩ (.take ⟨(some 30), (.iadA 3 1 (.tmp 5) (.const (.int .i64 2))), none⟩ (.take ⟨(some 31), (.ld1 (.tmp 30)), none⟩ (.take ⟨(some 33), (.ldn 3 (.tmp 3)), none⟩ (.take ⟨(some 34), (.iadA 3 1 (.tmp 5) (.const (.int .i64 0))), none⟩ (.take ⟨(some 35), (.ld1 (.tmp 34)), none⟩ (.take ⟨(some 36), (.iadA 3 1 (.tmp 5) (.const (.int .i64 1))), none⟩ (.take ⟨(some 37), (.ld1 (.tmp 36)), none⟩ (.take ⟨(some 38), (.iadA 3 1 (.tmp 5) (.const (.int .i64 2))), none⟩ (.take ⟨(some 39), (.ld1 (.tmp 38)), none⟩ (.alt false ⟨(some 32), (.call 99 [(.tmp 25), (.tmp 27), (.tmp 29), (.tmp 31)]), none⟩ (.alt false ⟨(some 40), (.call 106 [(.tmp 33), (.tmp 35), (.tmp 37), (.tmp 39)]), none⟩ (.take ⟨(some 9), (.mv (.tmp 32)), none⟩ (.take ⟨(some 10), (.mv (.tmp 40)), none⟩ .done)) .stop) .stop))))))))))))))))
    (.seq (.seq
    (.reg [⟨(some 41), (.mv (.tmp 7)), none⟩, ⟨(some 42), (.pnil false (.tmp 41)), none⟩, ⟨(some 43), (.mv (.tmp 42)), none⟩, ⟨(some 44), (.mv (.tmp 9)), (some (43, false))⟩, ⟨(some 45), (.pnil false (.tmp 44)), (some (43, false))⟩, ⟨(some 46), (.pick (.tmp 43) (.const (.bool true)) (.tmp 45)), none⟩])
    (.cond (.tmp 46)
    (.seq (.reg [⟨(some 6), (.mv (.const (.bool false))), none⟩]) .ret) .skip))
    (.seq (.seq
    (.reg [⟨(some 11), (.mv (.const (.int .i64 0))), none⟩])
    (.block 0
    (.loop (.seq
    (.seq (.reg [⟨(some 47), (.mv (.tmp 11)), none⟩, ⟨(some 48), (.fad 0 (.tmp 3)), none⟩, ⟨(some 49), (.ld1 (.tmp 48)), none⟩, ⟨(some 50), (.ar .mul (.tmp 49) (.const (.int .i64 33))), none⟩, ⟨(some 51), (.ar .add (.tmp 50) (.const (.int .i64 2))), none⟩, ⟨(some 52), (.cmp .lss (.tmp 47) (.tmp 51)), none⟩])
    (.cond (.tmp 52) .skip (.exit 0)))
    (.seq (.block 1
    (.seq (.reg [⟨(some 56), (.mv (.tmp 9)), none⟩, ⟨(some 57), (.call 101 [(.tmp 56)]), none⟩, ⟨(some 55), (.mv (.tmp 57)), none⟩, ⟨(some 58), (.ext 0 (.tmp 55)), none⟩, ⟨(some 59), (.ext 1 (.tmp 55)), none⟩, ⟨(some 60), (.ext 2 (.tmp 55)), none⟩, ⟨(some 12), (.mv (.tmp 58)), none⟩, ⟨(some 13), (.mv (.tmp 59)), none⟩, ⟨(some 14), (.mv (.tmp 60)), none⟩])
    (.seq (.seq
    (.reg [⟨(some 61), (.mv (.tmp 14)), none⟩, ⟨(some 62), (.mv (.tmp 10)), none⟩, ⟨(some 63), (.nilck (.tmp 62)), none⟩, ⟨(some 64), (.fad 9 (.tmp 63)), none⟩, ⟨(some 65), (.ld1 (.tmp 64)), none⟩, ⟨(some 66), (.beq true (.tmp 61) (.tmp 65)), none⟩, ⟨(some 67), (.mv (.tmp 66)), none⟩, ⟨(some 68), (.mv (.tmp 14)), (some (67, false))⟩, ⟨(some 69), (.mv (.tmp 68)), (some (67, false))⟩, ⟨(some 70), (.mv (.tmp 12)), (some (69, true))⟩, ⟨(some 71), (.mv (.tmp 10)), (some (69, true))⟩, ⟨(some 72), (.nilck (.tmp 71)), (some (69, true))⟩, ⟨(some 73), (.fad 7 (.tmp 72)), (some (69, true))⟩, ⟨(some 74), (.ld1 (.tmp 73)), (some (69, true))⟩, ⟨(some 75), (.cmp .neq (.tmp 70) (.tmp 74)), (some (69, true))⟩, ⟨(some 76), (.mv (.tmp 75)), (some (69, true))⟩, ⟨(some 77), (.mv (.tmp 13)), (some (76, false))⟩, ⟨(some 78), (.mv (.tmp 10)), (some (76, false))⟩, ⟨(some 79), (.nilck (.tmp 78)), (some (76, false))⟩, ⟨(some 80), (.fad 8 (.tmp 79)), (some (76, false))⟩, ⟨(some 81), (.ld1 (.tmp 80)), (some (76, false))⟩, ⟨(some 82), (.cmp .neq (.tmp 77) (.tmp 81)), (some (76, false))⟩, ⟨(some 83), (.pick (.tmp 76) (.const (.bool true)) (.tmp 82)), (some (69, true))⟩, ⟨(some 84), (.pick (.tmp 69) (.tmp 83) (.const (.bool false))), (some (67, false))⟩, ⟨(some 85), (.pick (.tmp 67) (.const (.bool true)) (.tmp 84)), none⟩, ⟨(some 86), (.mv (.tmp 85)), none⟩, ⟨(some 87), (.mv (.tmp 14)), (some (86, false))⟩, ⟨(some 88), (.nt (.tmp 87)), (some (86, false))⟩, ⟨(some 89), (.mv (.tmp 88)), (some (86, false))⟩, ⟨(some 90), (.mv (.tmp 12)), (some (89, true))⟩, ⟨(some 91), (.mv (.tmp 13)), (some (89, true))⟩, ⟨(some 92), (.ar .add (.tmp 90) (.tmp 91)), (some (89, true))⟩, ⟨(some 93), (.cmp .neq (.tmp 92) (.const (.int .i64 0))), (some (89, true))⟩, ⟨(some 94), (.pick (.tmp 89) (.tmp 93) (.const (.bool false))), (some (86, false))⟩, ⟨(some 95), (.pick (.tmp 86) (.const (.bool true)) (.tmp 94)), none⟩])
    (.cond (.tmp 95)
    (.seq (.reg [⟨(some 6), (.mv (.const (.bool false))), none⟩]) .ret) .skip))
    (.seq (.seq
    (.draw (.take ⟨(some 96), (.mv (.tmp 9)), none⟩ (.take ⟨(some 98), (.mv (.tmp 10)), none⟩ (.take ⟨(some 99), (.nilck (.tmp 98)), none⟩ (.take ⟨(some 100), (.fad 10 (.tmp 99)), none⟩ (.take ⟨(some 101), (.ld1 (.tmp 100)), none⟩ (.alt false ⟨(some 97), (.call 102 [(.tmp 96)]), none⟩ (.take ⟨(some 102), (.beq true (.tmp 97) (.tmp 101)), none⟩ .done) .stop)))))))
    (.cond (.tmp 102)
    (.seq (.reg [⟨(some 6), (.mv (.const (.bool false))), none⟩]) .ret) .skip))
    (.seq (.seq
    (.reg [⟨(some 103), (.mv (.tmp 9)), none⟩, ⟨(some 104), (.call 102 [(.tmp 103)]), none⟩])
    (.cond (.tmp 104) (.exit 0) .skip))
    (.seq (.reg [⟨(some 105), (.mv (.tmp 9)), none⟩, ⟨(some 106), (.mv (.tmp 7)), none⟩, ⟨(some 107), (.call 100 [(.tmp 105), (.tmp 106)]), none⟩])
    (.seq (.reg [⟨(some 108), (.mv (.tmp 10)), none⟩, ⟨(some 109), (.mv (.tmp 8)), none⟩, ⟨(some 110), (.call 107 [(.tmp 108), (.tmp 109)]), none⟩])
    (.seq (.reg [⟨(some 111), (.mv (.tmp 7)), none⟩, ⟨(some 112), (.mv (.tmp 8)), none⟩, ⟨(some 113), (.call 65 [(.tmp 111), (.tmp 112)]), none⟩, ⟨(some 114), (.nt (.tmp 113)), none⟩])
    (.cond (.tmp 114)
    (.seq (.reg [⟨(some 6), (.mv (.const (.bool false))), none⟩]) .ret) .skip)))))))))
    (.reg [⟨(some 53), (.mv (.tmp 11)), none⟩, ⟨(some 54), (.ar .add (.tmp 53) (.const (.int .i64 1))), none⟩, ⟨(some 11), (.mv (.tmp 54)), none⟩]))))))
    (.seq (.reg [⟨(some 115), (.mv (.tmp 9)), none⟩, ⟨(some 116), (.mv (.tmp 7)), none⟩, ⟨(some 117), (.call 100 [(.tmp 115), (.tmp 116)]), none⟩])
    (.seq (.draw (.take ⟨(some 118), (.mv (.tmp 9)), none⟩ (.alt false ⟨(some 119), (.call 102 [(.tmp 118)]), none⟩ (.take ⟨(some 120), (.mv (.tmp 119)), none⟩ (.take ⟨(some 121), (.mv (.tmp 7)), (some (120, true))⟩ (.take ⟨(some 123), (.mv (.tmp 8)), (some (120, true))⟩ (.take ⟨(some 124), (.nilck (.tmp 123)), (some (120, true))⟩ (.take ⟨(some 125), (.fad 1 (.tmp 124)), (some (120, true))⟩ (.take ⟨(some 126), (.ld1 (.tmp 125)), (some (120, true))⟩ (.alt false ⟨(some 122), (.call 34 [(.tmp 121)]), (some (120, true))⟩ (.take ⟨(some 127), (.cmp .eql (.tmp 122) (.tmp 126)), (some (120, true))⟩ (.take ⟨(some 128), (.pick (.tmp 120) (.tmp 127) (.const (.bool false))), none⟩ (.take ⟨(some 6), (.mv (.tmp 128)), none⟩ .done))) .stop))))))) .stop))) .ret)))))))))⟩ := by kernel_rfl

/-- allotment/allotmentlaw11.StripTwo -/
theorem tr25 : trF Try.prog pures Try.f25 = some
  ⟨189, [(.t 4)],
    (.seq (.reg [⟨(some 4), (.mv (.const (.bool false))), none⟩])
    (.seq (.seq
    (.reg [⟨(some 20), (.call 66 []), none⟩, ⟨(some 21), (.nt (.tmp 20)), none⟩])
    (.cond (.tmp 21)
    (.seq (.reg [⟨(some 4), (.mv (.const (.bool false))), none⟩]) .ret) .skip))
    (.seq (.reg [⟨(some 22), (.mv (.tmp 0)), none⟩, ⟨(some 23), (.cv .i64 (.tmp 22)), none⟩, ⟨(some 24), (.dv .rem (.tmp 23) (.const (.int .i64 4))), none⟩, ⟨(some 5), (.mv (.tmp 24)), none⟩])
    (.seq (.reg [⟨(some 26), (.mv (.tmp 5)), none⟩, ⟨(some 27), (.call 108 [(.tmp 26)]), none⟩, ⟨(some 25), (.mv (.tmp 27)), none⟩, ⟨(some 28), (.ext 0 (.tmp 25)), none⟩, ⟨(some 29), (.ext 1 (.tmp 25)), none⟩, ⟨(some 6), (.alc 57 (.agg #[(.int .i64 0), (.int .i64 0), (.int .i64 0)])), none⟩, ⟨none, (.stn 3 (.tmp 6) (.tmp 28)), none⟩, ⟨(some 7), (.mv (.tmp 29)), none⟩])
    (.seq (.reg [⟨(some 30), (.fad 1 (.tmp 6)), none⟩, ⟨none, (.st1 (.tmp 30) (.const (.int .i64 3))), none⟩])
    (.seq (.reg [⟨(some 31), (.bsl 26 #[(.int .u64 0)] 1 1 [(0, (.const (.int .u64 0)))]), none⟩, ⟨(some 32), (.mv (.tmp 7)), none⟩, ⟨(some 33), (.app 26 1 8 #[(.int .u64 0)] (.tmp 31) (.tmp 32)), none⟩, ⟨(some 7), (.mv (.tmp 33)), none⟩])
    (.seq (.reg [⟨(some 34), (.mv (.tmp 7)), none⟩, ⟨(some 35), (.call 41 [(.tmp 34)]), none⟩, ⟨(some 8), (.mv (.tmp 35)), none⟩])
    (.seq (.draw (.take ⟨(some 36), (.ldn 3 (.tmp 6)), none⟩ (.take ⟨(some 37), (.mv (.tmp 5)), none⟩ (.take ⟨(some 39), (.ldn 3 (.tmp 6)), none⟩ (.take ⟨(some 40), (.mv (.tmp 5)), none⟩ (.alt false ⟨(some 38), (.call 71 [(.tmp 36), (.const (.int .i64 0)), (.const (.int .i64 0)), (.tmp 37)]), none⟩ (.alt false ⟨(some 41), (.call 71 [(.tmp 39), (.const (.int .i64 1)), (.const (.int .i64 0)), (.tmp 40)]), none⟩ (.take ⟨(some 9), (.mv (.tmp 38)), none⟩ (.take ⟨(some 10), (.mv (.tmp 41)), none⟩ .done)) .stop) .stop))))))
    (.seq (.reg [⟨(some 42), (.ldn 3 (.tmp 6)), none⟩, ⟨(some 43), (.mv (.tmp 5)), none⟩, ⟨(some 44), (.call 99 [(.tmp 42), (.const (.int .i64 2)), (.tmp 43), (.const (.int .i64 0))]), none⟩, ⟨(some 11), (.mv (.tmp 44)), none⟩])
    (.seq (.seq
    (.reg [⟨(some 45), (.mv (.tmp 8)), none⟩, ⟨(some 46), (.pnil false (.tmp 45)), none⟩, ⟨(some 47), (.mv (.tmp 46)), none⟩, ⟨(some 48), (.mv (.tmp 9)), (some (47, false))⟩, ⟨(some 49), (.pnil false (.tmp 48)), (some (47, false))⟩, ⟨(some 50), (.pick (.tmp 47) (.const (.bool true)) (.tmp 49)), none⟩, ⟨(some 51), (.mv (.tmp 50)), none⟩, ⟨(some 52), (.mv (.tmp 10)), (some (51, false))⟩, ⟨(some 53), (.pnil false (.tmp 52)), (some (51, false))⟩, ⟨(some 54), (.pick (.tmp 51) (.const (.bool true)) (.tmp 53)), none⟩, ⟨(some 55), (.mv (.tmp 54)), none⟩, ⟨(some 56), (.mv (.tmp 11)), (some (55, false))⟩, ⟨(some 57), (.pnil false (.tmp 56)), (some (55, false))⟩, ⟨(some 58), (.pick (.tmp 55) (.const (.bool true)) (.tmp 57)), none⟩])
    (.cond (.tmp 58)
    (.seq (.reg [⟨(some 4), (.mv (.const (.bool false))), none⟩]) .ret) .skip))
    (.seq (.seq
    (.reg [⟨(some 12), (.mv (.const (.int .i64 0))), none⟩])
    (.block 0
    (.loop (.seq
    (.seq (.reg [⟨(some 59), (.mv (.tmp 12)), none⟩, ⟨(some 60), (.cmp .lss (.tmp 59) (.const (.int .i64 120))), none⟩])
    (.cond (.tmp 60) .skip (.exit 0)))
    (.seq (.block 1
    (.seq (.reg [⟨(some 63), (.mv (.tmp 12)), none⟩, ⟨(some 64), (.dv .rem (.tmp 63) (.const (.int .i64 3))), none⟩, ⟨(some 13), (.mv (.tmp 64)), none⟩])
    (.seq (.seq
    (.reg [⟨(some 65), (.mv (.tmp 12)), none⟩, ⟨(some 66), (.mv (.tmp 1)), none⟩, ⟨(some 67), (.len (.tmp 66)), none⟩, ⟨(some 68), (.cmp .lss (.tmp 65) (.tmp 67)), none⟩])
    (.cond (.tmp 68)
    (.reg [⟨(some 69), (.mv (.tmp 1)), none⟩, ⟨(some 70), (.mv (.tmp 12)), none⟩, ⟨(some 71), (.iad 1 (.tmp 69) (.tmp 70)), none⟩, ⟨(some 72), (.ld1 (.tmp 71)), none⟩, ⟨(some 73), (.cv .i64 (.tmp 72)), none⟩, ⟨(some 74), (.dv .rem (.tmp 73) (.const (.int .i64 3))), none⟩, ⟨(some 13), (.mv (.tmp 74)), none⟩]) .skip))
    (.seq (.reg [⟨(some 75), (.mv (.tmp 13)), none⟩])
    (.block 2
    (.seq (.reg [⟨(some 80), (.cmp .eql (.tmp 75) (.const (.int .i64 0))), none⟩, ⟨(some 79), (.mv (.tmp 80)), none⟩])
    (.cond (.tmp 79)
    (.reg [⟨(some 81), (.mv (.tmp 9)), none⟩, ⟨(some 82), (.mv (.tmp 8)), none⟩, ⟨(some 83), (.call 73 [(.tmp 81), (.tmp 82)]), none⟩])
    (.seq (.reg [⟨(some 85), (.cmp .eql (.tmp 75) (.const (.int .i64 1))), none⟩, ⟨(some 84), (.mv (.tmp 85)), none⟩])
    (.cond (.tmp 84)
    (.reg [⟨(some 86), (.mv (.tmp 10)), none⟩, ⟨(some 87), (.mv (.tmp 8)), none⟩, ⟨(some 88), (.call 73 [(.tmp 86), (.tmp 87)]), none⟩])
    (.reg [⟨(some 76), (.mv (.tmp 11)), none⟩, ⟨(some 77), (.mv (.tmp 8)), none⟩, ⟨(some 78), (.call 100 [(.tmp 76), (.tmp 77)]), none⟩]))))))))))
    (.reg [⟨(some 61), (.mv (.tmp 12)), none⟩, ⟨(some 62), (.ar .add (.tmp 61) (.const (.int .i64 1))), none⟩, ⟨(some 12), (.mv (.tmp 62)), none⟩]))))))
    (.seq (.seq
    (.reg [⟨(some 14), (.mv (.const (.int .i64 0))), none⟩])
    (.block 3
    (.loop (.seq
    (.seq (.reg [⟨(some 89), (.mv (.tmp 14)), none⟩, ⟨(some 90), (.cmp .lss (.tmp 89) (.const (.int .i64 60))), none⟩])
    (.cond (.tmp 90) .skip (.exit 3)))
    (.seq (.block 4
    (.seq (.reg [⟨(some 93), (.mv (.tmp 9)), none⟩, ⟨(some 94), (.mv (.tmp 8)), none⟩, ⟨(some 95), (.call 73 [(.tmp 93), (.tmp 94)]), none⟩])
    (.seq (.reg [⟨(some 96), (.mv (.tmp 10)), none⟩, ⟨(some 97), (.mv (.tmp 8)), none⟩, ⟨(some 98), (.call 73 [(.tmp 96), (.tmp 97)]), none⟩])
    (.reg [⟨(some 99), (.mv (.tmp 11)), none⟩, ⟨(some 100), (.mv (.tmp 8)), none⟩, ⟨(some 101), (.call 100 [(.tmp 99), (.tmp 100)]), none⟩]))))
    (.reg [⟨(some 91), (.mv (.tmp 14)), none⟩, ⟨(some 92), (.ar .add (.tmp 91) (.const (.int .i64 1))), none⟩, ⟨(some 14), (.mv (.tmp 92)), none⟩]))))))
    (.seq (.reg [⟨(some 103), (.mv (.tmp 11)), none⟩, ⟨(some 104), (.call 101 [(.tmp 103)]), none⟩, ⟨(some 102), (.mv (.tmp 104)), none⟩, ⟨(some 105), (.ext 0 (.tmp 102)), none⟩, ⟨(some 106), (.ext 1 (.tmp 102)), none⟩, ⟨(some 107), (.ext 2 (.tmp 102)), none⟩, ⟨(some 15), (.mv (.tmp 105)), none⟩, ⟨(some 16), (.mv (.tmp 106)), none⟩, ⟨(some 17), (.mv (.tmp 107)), none⟩])
    (.seq (.seq
    (.reg [⟨(some 108), (.mv (.tmp 9)), none⟩, ⟨(some 109), (.call 72 [(.tmp 108)]), none⟩, ⟨(some 110), (.nt (.tmp 109)), none⟩, ⟨(some 111), (.mv (.tmp 110)), none⟩, ⟨(some 112), (.mv (.tmp 10)), (some (111, false))⟩, ⟨(some 113), (.call 72 [(.tmp 112)]), (some (111, false))⟩, ⟨(some 114), (.nt (.tmp 113)), (some (111, false))⟩, ⟨(some 115), (.pick (.tmp 111) (.const (.bool true)) (.tmp 114)), none⟩, ⟨(some 116), (.mv (.tmp 115)), none⟩, ⟨(some 117), (.mv (.tmp 11)), (some (116, false))⟩, ⟨(some 118), (.call 102 [(.tmp 117)]), (some (116, false))⟩, ⟨(some 119), (.nt (.tmp 118)), (some (116, false))⟩, ⟨(some 120), (.pick (.tmp 116) (.const (.bool true)) (.tmp 119)), none⟩, ⟨(some 121), (.mv (.tmp 120)), none⟩, ⟨(some 122), (.mv (.tmp 9)), (some (121, false))⟩, ⟨(some 123), (.call 74 [(.tmp 122)]), (some (121, false))⟩, ⟨(some 124), (.mv (.tmp 123)), (some (121, false))⟩, ⟨(some 125), (.mv (.tmp 10)), (some (124, true))⟩, ⟨(some 126), (.call 74 [(.tmp 125)]), (some (124, true))⟩, ⟨(some 127), (.pick (.tmp 124) (.tmp 126) (.const (.bool false))), (some (121, false))⟩, ⟨(some 128), (.pick (.tmp 121) (.const (.bool true)) (.tmp 127)), none⟩, ⟨(some 129), (.mv (.tmp 128)), none⟩, ⟨(some 130), (.mv (.tmp 17)), (some (129, false))⟩, ⟨(some 131), (.mv (.tmp 130)), (some (129, false))⟩, ⟨(some 132), (.mv (.tmp 9)), (some (131, true))⟩, ⟨(some 133), (.call 74 [(.tmp 132)]), (some (131, true))⟩, ⟨(some 134), (.mv (.tmp 133)), (some (131, true))⟩, ⟨(some 135), (.mv (.tmp 10)), (some (134, false))⟩, ⟨(some 136), (.call 74 [(.tmp 135)]), (some (134, false))⟩, ⟨(some 137), (.pick (.tmp 134) (.const (.bool true)) (.tmp 136)), (some (131, true))⟩, ⟨(some 138), (.pick (.tmp 131) (.tmp 137) (.const (.bool false))), (some (129, false))⟩, ⟨(some 139), (.pick (.tmp 129) (.const (.bool true)) (.tmp 138)), none⟩])
    (.cond (.tmp 139)
    (.seq (.reg [⟨(some 4), (.mv (.const (.bool false))), none⟩]) .ret) .skip))
    (.seq (.seq
    (.reg [⟨(some 140), (.mv (.tmp 9)), none⟩, ⟨(some 141), (.call 74 [(.tmp 140)]), none⟩, ⟨(some 142), (.mv (.tmp 141)), none⟩, ⟨(some 143), (.mv (.tmp 10)), (some (142, false))⟩, ⟨(some 144), (.call 74 [(.tmp 143)]), (some (142, false))⟩, ⟨(some 145), (.pick (.tmp 142) (.const (.bool true)) (.tmp 144)), none⟩])
    (.cond (.tmp 145)
    (.seq (.reg [⟨(some 4), (.mv (.const (.bool true))), none⟩]) .ret) .skip))
    (.seq (.seq
    (.reg [⟨(some 18), (.mv (.const (.int .i64 0))), none⟩])
    (.block 5
    (.loop (.seq
    (.seq (.reg [⟨(some 146), (.mv (.tmp 18)), none⟩, ⟨(some 147), (.mv (.tmp 5)), none⟩, ⟨(some 148), (.pcall 67 [(.tmp 147)]), none⟩, ⟨(some 149), (.cmp .lss (.tmp 146) (.tmp 148)), none⟩])
    (.cond (.tmp 149) .skip (.exit 5)))
    (.seq (.block 6
    (.seq (.reg [⟨(some 152), (.mv (.tmp 8)), none⟩, ⟨(some 153), (.mv (.tmp 18)), none⟩, ⟨(some 154), (.ar .add (.const (.int .i64 4)) (.tmp 153)), none⟩, ⟨(some 155), (.call 33 [(.tmp 152), (.tmp 154)]), none⟩, ⟨(some 19), (.mv (.tmp 155)), none⟩])
    (.seq (.reg [⟨(some 156), (.mv (.tmp 17)), none⟩, ⟨(some 157), (.mv (.tmp 156)), none⟩, ⟨(some 158), (.mv (.tmp 18)), (some (157, true))⟩, ⟨(some 159), (.mv (.tmp 16)), (some (157, true))⟩, ⟨(some 160), (.cmp .eql (.tmp 158) (.tmp 159)), (some (157, true))⟩, ⟨(some 161), (.pick (.tmp 157) (.tmp 160) (.const (.bool false))), none⟩, ⟨(some 162), (.mv (.tmp 161)), none⟩, ⟨(some 163), (.mv (.tmp 19)), (some (162, true))⟩, ⟨(some 164), (.bld #[(.int .i64 0), (.int .i64 0)] [(0, (1, (.const (.int .i64 2)))), (1, (1, (.const (.int .i64 2))))]), (some (162, true))⟩, ⟨(some 165), (.pcall 69 [(.tmp 164)]), (some (162, true))⟩, ⟨(some 166), (.cmp .neq (.tmp 163) (.tmp 165)), (some (162, true))⟩, ⟨(some 167), (.pick (.tmp 162) (.tmp 166) (.const (.bool false))), none⟩, ⟨(some 168), (.mv (.tmp 167)), none⟩, ⟨(some 169), (.mv (.tmp 17)), (some (168, false))⟩, ⟨(some 170), (.mv (.tmp 169)), (some (168, false))⟩, ⟨(some 171), (.mv (.tmp 18)), (some (170, true))⟩, ⟨(some 172), (.mv (.tmp 16)), (some (170, true))⟩, ⟨(some 173), (.cmp .eql (.tmp 171) (.tmp 172)), (some (170, true))⟩, ⟨(some 174), (.pick (.tmp 170) (.tmp 173) (.const (.bool false))), (some (168, false))⟩, ⟨(some 175), (.nt (.tmp 174)), (some (168, false))⟩, ⟨(some 176), (.mv (.tmp 175)), (some (168, false))⟩, ⟨(some 177), (.mv (.tmp 19)), (some (176, true))⟩, ⟨(some 178), (.mv (.tmp 5)), (some (176, true))⟩, ⟨(some 179), (.call 68 [(.tmp 178)]), (some (176, true))⟩, ⟨(some 180), (.cmp .neq (.tmp 177) (.tmp 179)), (some (176, true))⟩, ⟨(some 181), (.pick (.tmp 176) (.tmp 180) (.const (.bool false))), (some (168, false))⟩, ⟨(some 182), (.pick (.tmp 168) (.const (.bool true)) (.tmp 181)), none⟩])
    (.cond (.tmp 182)
    (.seq (.reg [⟨(some 4), (.mv (.const (.bool false))), none⟩]) .ret) .skip))))
    (.reg [⟨(some 150), (.mv (.tmp 18)), none⟩, ⟨(some 151), (.ar .add (.tmp 150) (.const (.int .i64 1))), none⟩, ⟨(some 18), (.mv (.tmp 151)), none⟩]))))))
    (.seq (.reg [⟨(some 183), (.mv (.tmp 8)), none⟩, ⟨(some 184), (.call 33 [(.tmp 183), (.const (.int .i64 3))]), none⟩, ⟨(some 185), (.mv (.tmp 5)), none⟩, ⟨(some 186), (.bld #[(.int .i64 0), (.int .i64 0), (.int .i64 0)] [(0, (1, (.const (.int .i64 2)))), (1, (1, (.tmp 185)))]), none⟩, ⟨(some 187), (.pcall 59 [(.tmp 186)]), none⟩, ⟨(some 188), (.cmp .eql (.tmp 184) (.tmp 187)), none⟩, ⟨(some 4), (.mv (.tmp 188)), none⟩]) .ret)))))))))))))))))⟩ := by kernel_rfl

/-- allotment/allotmentlaw12.BindHides -/
theorem tr26 : trF Try.prog pures Try.f26 = some
  ⟨169, [(.t 4)],
    (.seq (.reg [⟨(some 4), (.mv (.const (.bool false))), none⟩])
    (.seq (.seq
    (.reg [⟨(some 25), (.call 75 []), none⟩, ⟨(some 26), (.nt (.tmp 25)), none⟩])
    (.cond (.tmp 26)
    (.seq (.reg [⟨(some 4), (.mv (.const (.bool false))), none⟩]) .ret) .skip))
    (.seq (.reg [⟨(some 27), (.mv (.tmp 0)), none⟩, ⟨(some 28), (.cv .i64 (.tmp 27)), none⟩, ⟨(some 29), (.dv .rem (.tmp 28) (.const (.int .i64 4))), none⟩, ⟨(some 5), (.mv (.tmp 29)), none⟩])
    (.seq (.reg [⟨(some 30), (.bld #[(.int .i64 0), (.int .i64 0), (.int .i64 0)] [(0, (1, (.const (.int .i64 1)))), (1, (1, (.const (.int .i64 3))))]), none⟩, ⟨(some 6), (.alc 57 (.agg #[(.int .i64 0), (.int .i64 0), (.int .i64 0)])), none⟩, ⟨none, (.stn 3 (.tmp 6) (.tmp 30)), none⟩])
    (.seq (.reg [⟨(some 31), (.ldn 3 (.tmp 6)), none⟩, ⟨(some 32), (.pcall 54 [(.tmp 31)]), none⟩, ⟨(some 33), (.mks 26 8 (.int .u64 0) (.tmp 32) (.tmp 32)), none⟩, ⟨(some 7), (.mv (.tmp 33)), none⟩])
    (.seq (.reg [⟨(some 34), (.mv (.tmp 7)), none⟩, ⟨(some 35), (.bld #[(.int .i64 0), (.int .i64 0), (.int .i64 0)] [(0, (1, (.const (.int .i64 1))))]), none⟩, ⟨(some 36), (.pcall 59 [(.tmp 35)]), none⟩, ⟨(some 37), (.iad 1 (.tmp 34) (.const (.int .i64 3))), none⟩, ⟨none, (.st1 (.tmp 37) (.tmp 36)), none⟩])
    (.seq (.reg [⟨(some 38), (.mv (.tmp 7)), none⟩, ⟨(some 39), (.call 41 [(.tmp 38)]), none⟩, ⟨(some 8), (.mv (.tmp 39)), none⟩])
    (.seq (.draw (.take ⟨(some 40), (.ldn 3 (.tmp 6)), none⟩ (.take ⟨(some 41), (.mv (.tmp 5)), none⟩ (.take ⟨(some 43), (.ldn 3 (.tmp 6)), none⟩ (.take ⟨(some 44), (.mv (.tmp 5)), none⟩ (.alt false ⟨(some 42), (.call 76 [(.tmp 40), (.const (.int .i64 0)), (.const (.int .i64 0)), (.tmp 41)]), none⟩ (.alt false ⟨(some 45), (.call 99 [(.tmp 43), (.const (.int .i64 1)), (.tmp 44), (.const (.int .i64 0))]), none⟩ (.take ⟨(some 9), (.mv (.tmp 42)), none⟩ (.take ⟨(some 10), (.mv (.tmp 45)), none⟩ .done)) .stop) .stop))))))
    (.seq (.seq
    (.reg [⟨(some 46), (.mv (.tmp 8)), none⟩, ⟨(some 47), (.pnil false (.tmp 46)), none⟩, ⟨(some 48), (.mv (.tmp 47)), none⟩, ⟨(some 49), (.mv (.tmp 9)), (some (48, false))⟩, ⟨(some 50), (.pnil false (.tmp 49)), (some (48, false))⟩, ⟨(some 51), (.pick (.tmp 48) (.const (.bool true)) (.tmp 50)), none⟩, ⟨(some 52), (.mv (.tmp 51)), none⟩, ⟨(some 53), (.mv (.tmp 10)), (some (52, false))⟩, ⟨(some 54), (.pnil false (.tmp 53)), (some (52, false))⟩, ⟨(some 55), (.pick (.tmp 52) (.const (.bool true)) (.tmp 54)), none⟩])
    (.cond (.tmp 55)
    (.seq (.reg [⟨(some 4), (.mv (.const (.bool false))), none⟩]) .ret) .skip))
    (.seq (.seq
    (.reg [⟨(some 11), (.mv (.const (.int .i64 0))), none⟩])
    (.block 0
    (.loop (.seq
    (.seq (.reg [⟨(some 56), (.mv (.tmp 11)), none⟩, ⟨(some 57), (.cmp .lss (.tmp 56) (.const (.int .i64 120))), none⟩])
    (.cond (.tmp 57) .skip (.exit 0)))
    (.seq (.block 1
    (.seq (.seq
    (.reg [⟨(some 60), (.mv (.tmp 11)), none⟩, ⟨(some 61), (.mv (.tmp 1)), none⟩, ⟨(some 62), (.len (.tmp 61)), none⟩, ⟨(some 63), (.cmp .lss (.tmp 60) (.tmp 62)), none⟩, ⟨(some 64), (.mv (.tmp 63)), none⟩, ⟨(some 65), (.mv (.tmp 1)), (some (64, true))⟩, ⟨(some 66), (.mv (.tmp 11)), (some (64, true))⟩, ⟨(some 67), (.iad 1 (.tmp 65) (.tmp 66)), (some (64, true))⟩, ⟨(some 68), (.ld1 (.tmp 67)), (some (64, true))⟩, ⟨(some 69), (.pick (.tmp 64) (.tmp 68) (.const (.bool false))), none⟩])
    (.cond (.tmp 69)
    (.reg [⟨(some 70), (.mv (.tmp 10)), none⟩, ⟨(some 71), (.mv (.tmp 8)), none⟩, ⟨(some 72), (.call 100 [(.tmp 70), (.tmp 71)]), none⟩])
    (.reg [⟨(some 73), (.mv (.tmp 9)), none⟩, ⟨(some 74), (.mv (.tmp 8)), none⟩, ⟨(some 75), (.call 79 [(.tmp 73), (.tmp 74)]), none⟩])))
    (.seq (.reg [⟨(some 77), (.mv (.tmp 10)), none⟩, ⟨(some 78), (.call 101 [(.tmp 77)]), none⟩, ⟨(some 76), (.mv (.tmp 78)), none⟩, ⟨(some 79), (.ext 0 (.tmp 76)), none⟩, ⟨(some 80), (.ext 1 (.tmp 76)), none⟩, ⟨(some 81), (.ext 2 (.tmp 76)), none⟩, ⟨(some 12), (.mv (.tmp 79)), none⟩, ⟨(some 13), (.mv (.tmp 80)), none⟩, ⟨(some 14), (.mv (.tmp 81)), none⟩])
    (.seq (.reg [⟨(some 82), (.mv (.tmp 14)), none⟩, ⟨(some 83), (.mv (.tmp 82)), none⟩, ⟨(some 84), (.mv (.tmp 13)), (some (83, true))⟩, ⟨(some 85), (.cmp .eql (.tmp 84) (.const (.int .i64 0))), (some (83, true))⟩, ⟨(some 86), (.pick (.tmp 83) (.tmp 85) (.const (.bool false))), none⟩])
    (.cond (.tmp 86)
    (.seq (.reg [⟨(some 4), (.mv (.const (.bool false))), none⟩]) .ret) .skip)))))
    (.reg [⟨(some 58), (.mv (.tmp 11)), none⟩, ⟨(some 59), (.ar .add (.tmp 58) (.const (.int .i64 1))), none⟩, ⟨(some 11), (.mv (.tmp 59)), none⟩]))))))
    (.seq (.seq
    (.reg [⟨(some 15), (.mv (.const (.int .i64 0))), none⟩])
    (.block 2
    (.loop (.seq
    (.seq (.reg [⟨(some 87), (.mv (.tmp 15)), none⟩, ⟨(some 88), (.cmp .lss (.tmp 87) (.const (.int .i64 60))), none⟩])
    (.cond (.tmp 88) .skip (.exit 2)))
    (.seq (.block 3
    (.seq (.reg [⟨(some 91), (.mv (.tmp 9)), none⟩, ⟨(some 92), (.mv (.tmp 8)), none⟩, ⟨(some 93), (.call 79 [(.tmp 91), (.tmp 92)]), none⟩])
    (.reg [⟨(some 94), (.mv (.tmp 10)), none⟩, ⟨(some 95), (.mv (.tmp 8)), none⟩, ⟨(some 96), (.call 100 [(.tmp 94), (.tmp 95)]), none⟩])))
    (.reg [⟨(some 89), (.mv (.tmp 15)), none⟩, ⟨(some 90), (.ar .add (.tmp 89) (.const (.int .i64 1))), none⟩, ⟨(some 15), (.mv (.tmp 90)), none⟩]))))))
    (.seq (.reg [⟨(some 98), (.mv (.tmp 10)), none⟩, ⟨(some 99), (.call 101 [(.tmp 98)]), none⟩, ⟨(some 97), (.mv (.tmp 99)), none⟩, ⟨(some 100), (.ext 0 (.tmp 97)), none⟩, ⟨(some 101), (.ext 1 (.tmp 97)), none⟩, ⟨(some 102), (.ext 2 (.tmp 97)), none⟩, ⟨(some 16), (.mv (.tmp 100)), none⟩, ⟨(some 17), (.mv (.tmp 101)), none⟩, ⟨(some 18), (.mv (.tmp 102)), none⟩])
    (.seq (.seq
    (.reg [⟨(some 103), (.mv (.tmp 9)), none⟩, ⟨(some 104), (.call 78 [(.tmp 103)]), none⟩, ⟨(some 105), (.nt (.tmp 104)), none⟩, ⟨(some 106), (.mv (.tmp 105)), none⟩, ⟨(some 107), (.mv (.tmp 10)), (some (106, false))⟩, ⟨(some 108), (.call 102 [(.tmp 107)]), (some (106, false))⟩, ⟨(some 109), (.nt (.tmp 108)), (some (106, false))⟩, ⟨(some 110), (.pick (.tmp 106) (.const (.bool true)) (.tmp 109)), none⟩, ⟨(some 111), (.mv (.tmp 110)), none⟩, ⟨(some 112), (.mv (.tmp 18)), (some (111, false))⟩, ⟨(some 113), (.mv (.tmp 112)), (some (111, false))⟩, ⟨(some 114), (.mv (.tmp 17)), (some (113, true))⟩, ⟨(some 115), (.cmp .eql (.tmp 114) (.const (.int .i64 0))), (some (113, true))⟩, ⟨(some 116), (.pick (.tmp 113) (.tmp 115) (.const (.bool false))), (some (111, false))⟩, ⟨(some 117), (.pick (.tmp 111) (.const (.bool true)) (.tmp 116)), none⟩])
    (.cond (.tmp 117)
    (.seq (.reg [⟨(some 4), (.mv (.const (.bool false))), none⟩]) .ret) .skip))
    (.seq (.reg [⟨(some 118), (.ldn 3 (.tmp 6)), none⟩, ⟨(some 119), (.mv (.tmp 5)), none⟩, ⟨(some 120), (.call 99 [(.tmp 118), (.const (.int .i64 2)), (.tmp 119), (.const (.int .i64 0))]), none⟩, ⟨(some 19), (.mv (.tmp 120)), none⟩])
    (.seq (.seq
    (.reg [⟨(some 20), (.mv (.const (.int .i64 0))), none⟩])
    (.block 4
    (.loop (.seq
    (.seq (.reg [⟨(some 121), (.mv (.tmp 20)), none⟩, ⟨(some 122), (.cmp .lss (.tmp 121) (.const (.int .i64 40))), none⟩])
    (.cond (.tmp 122) .skip (.exit 4)))
    (.seq (.block 5
    (.reg [⟨(some 125), (.mv (.tmp 19)), none⟩, ⟨(some 126), (.mv (.tmp 8)), none⟩, ⟨(some 127), (.call 100 [(.tmp 125), (.tmp 126)]), none⟩]))
    (.reg [⟨(some 123), (.mv (.tmp 20)), none⟩, ⟨(some 124), (.ar .add (.tmp 123) (.const (.int .i64 1))), none⟩, ⟨(some 20), (.mv (.tmp 124)), none⟩]))))))
    (.seq (.reg [⟨(some 129), (.mv (.tmp 19)), none⟩, ⟨(some 130), (.call 101 [(.tmp 129)]), none⟩, ⟨(some 128), (.mv (.tmp 130)), none⟩, ⟨(some 131), (.ext 0 (.tmp 128)), none⟩, ⟨(some 132), (.ext 1 (.tmp 128)), none⟩, ⟨(some 133), (.ext 2 (.tmp 128)), none⟩, ⟨(some 21), (.mv (.tmp 131)), none⟩, ⟨(some 22), (.mv (.tmp 132)), none⟩, ⟨(some 23), (.mv (.tmp 133)), none⟩])
    (.seq (.reg [⟨(some 134), (.mv (.tmp 5)), none⟩, ⟨(some 135), (.pcall 67 [(.tmp 134)]), none⟩, ⟨(some 24), (.mv (.tmp 135)), none⟩])
    (.seq (.reg [⟨(some 136), (.mv (.tmp 19)), none⟩, ⟨(some 137), (.call 102 [(.tmp 136)]), none⟩, ⟨(some 138), (.mv (.tmp 137)), none⟩, ⟨(some 139), (.mv (.tmp 23)), (some (138, true))⟩, ⟨(some 140), (.mv (.tmp 24)), (some (138, true))⟩, ⟨(some 141), (.cmp .gtr (.tmp 140) (.const (.int .i64 2))), (some (138, true))⟩, ⟨(some 142), (.mv (.tmp 141)), (some (138, true))⟩, ⟨(some 143), (.mv (.tmp 24)), (some (142, false))⟩, ⟨(some 144), (.cmp .eql (.tmp 143) (.const (.int .i64 2))), (some (142, false))⟩, ⟨(some 145), (.mv (.tmp 144)), (some (142, false))⟩, ⟨(some 146), (.mv (.tmp 18)), (some (145, true))⟩, ⟨(some 147), (.nt (.tmp 146)), (some (145, true))⟩, ⟨(some 148), (.pick (.tmp 145) (.tmp 147) (.const (.bool false))), (some (142, false))⟩, ⟨(some 149), (.pick (.tmp 142) (.const (.bool true)) (.tmp 148)), (some (138, true))⟩, ⟨(some 150), (.beq false (.tmp 139) (.tmp 149)), (some (138, true))⟩, ⟨(some 151), (.pick (.tmp 138) (.tmp 150) (.const (.bool false))), none⟩, ⟨(some 152), (.mv (.tmp 151)), none⟩, ⟨(some 153), (.mv (.tmp 23)), (some (152, true))⟩, ⟨(some 154), (.nt (.tmp 153)), (some (152, true))⟩, ⟨(some 155), (.mv (.tmp 154)), (some (152, true))⟩, ⟨(some 156), (.mv (.tmp 22)), (some (155, false))⟩, ⟨(some 157), (.cmp .neq (.tmp 156) (.const (.int .i64 0))), (some (155, false))⟩, ⟨(some 158), (.mv (.tmp 157)), (some (155, false))⟩, ⟨(some 159), (.mv (.tmp 18)), (some (158, true))⟩, ⟨(some 160), (.nt (.tmp 159)), (some (158, true))⟩, ⟨(some 161), (.mv (.tmp 160)), (some (158, true))⟩, ⟨(some 162), (.mv (.tmp 22)), (some (161, false))⟩, ⟨(some 163), (.mv (.tmp 17)), (some (161, false))⟩, ⟨(some 164), (.cmp .neq (.tmp 162) (.tmp 163)), (some (161, false))⟩, ⟨(some 165), (.pick (.tmp 161) (.const (.bool true)) (.tmp 164)), (some (158, true))⟩, ⟨(some 166), (.pick (.tmp 158) (.tmp 165) (.const (.bool false))), (some (155, false))⟩, ⟨(some 167), (.pick (.tmp 155) (.const (.bool true)) (.tmp 166)), (some (152, true))⟩, ⟨(some 168), (.pick (.tmp 152) (.tmp 167) (.const (.bool false))), none⟩, ⟨(some 4), (.mv (.tmp 168)), none⟩]) .ret))))))))))))))))))⟩ := by kernel_rfl

/-- allotment/allotmentlaw12.BindStrip -/
theorem tr27 : trF Try.prog pures Try.f27 = some
  ⟨149, [(.t 4)],
    (.seq (.reg [⟨(some 4), (.mv (.const (.bool false))), none⟩])
    (.seq (.seq
    (.reg [⟨(some 23), (.call 75 []), none⟩, ⟨(some 24), (.nt (.tmp 23)), none⟩])
    (.cond (.tmp 24)
    (.seq (.reg [⟨(some 4), (.mv (.const (.bool false))), none⟩]) .ret) .skip))
    (.seq (.reg [⟨(some 25), (.mv (.tmp 0)), none⟩, ⟨(some 26), (.cv .i64 (.tmp 25)), none⟩, ⟨(some 27), (.dv .rem (.tmp 26) (.const (.int .i64 4))), none⟩, ⟨(some 28), (.mv (.tmp 1)), none⟩, ⟨(some 29), (.cv .i64 (.tmp 28)), none⟩, ⟨(some 30), (.dv .rem (.tmp 29) (.const (.int .i64 4))), none⟩, ⟨(some 5), (.mv (.tmp 27)), none⟩, ⟨(some 6), (.mv (.tmp 30)), none⟩])
    (.seq (.reg [⟨(some 31), (.bld #[(.int .i64 0), (.int .i64 0), (.int .i64 0)] [(0, (1, (.const (.int .i64 1)))), (1, (1, (.const (.int .i64 2))))]), none⟩, ⟨(some 7), (.alc 57 (.agg #[(.int .i64 0), (.int .i64 0), (.int .i64 0)])), none⟩, ⟨none, (.stn 3 (.tmp 7) (.tmp 31)), none⟩])
    (.seq (.reg [⟨(some 32), (.ldn 3 (.tmp 7)), none⟩, ⟨(some 33), (.pcall 54 [(.tmp 32)]), none⟩, ⟨(some 34), (.mks 26 8 (.int .u64 0) (.tmp 33) (.tmp 33)), none⟩, ⟨(some 8), (.mv (.tmp 34)), none⟩])
    (.seq (.reg [⟨(some 35), (.mv (.tmp 8)), none⟩, ⟨(some 36), (.bld #[(.int .i64 0), (.int .i64 0), (.int .i64 0)] [(0, (1, (.const (.int .i64 1))))]), none⟩, ⟨(some 37), (.pcall 59 [(.tmp 36)]), none⟩, ⟨(some 38), (.iad 1 (.tmp 35) (.const (.int .i64 2))), none⟩, ⟨none, (.st1 (.tmp 38) (.tmp 37)), none⟩])
    (.seq (.reg [⟨(some 39), (.mv (.tmp 8)), none⟩, ⟨(some 40), (.call 41 [(.tmp 39)]), none⟩, ⟨(some 9), (.mv (.tmp 40)), none⟩])
    (.seq (.reg [⟨(some 41), (.ldn 3 (.tmp 7)), none⟩, ⟨(some 42), (.mv (.tmp 5)), none⟩, ⟨(some 43), (.call 76 [(.tmp 41), (.const (.int .i64 0)), (.const (.int .i64 0)), (.tmp 42)]), none⟩, ⟨(some 10), (.mv (.tmp 43)), none⟩])
    (.seq (.seq
    (.reg [⟨(some 44), (.mv (.tmp 9)), none⟩, ⟨(some 45), (.pnil false (.tmp 44)), none⟩, ⟨(some 46), (.mv (.tmp 45)), none⟩, ⟨(some 47), (.mv (.tmp 10)), (some (46, false))⟩, ⟨(some 48), (.pnil false (.tmp 47)), (some (46, false))⟩, ⟨(some 49), (.pick (.tmp 46) (.const (.bool true)) (.tmp 48)), none⟩])
    (.cond (.tmp 49)
    (.seq (.reg [⟨(some 4), (.mv (.const (.bool false))), none⟩]) .ret) .skip))
    (.seq (.seq
    (.reg [⟨(some 11), (.mv (.const (.int .i64 0))), none⟩])
    (.block 0
    (.loop (.seq
    (.seq (.reg [⟨(some 50), (.mv (.tmp 11)), none⟩, ⟨(some 51), (.cmp .lss (.tmp 50) (.const (.int .i64 40))), none⟩])
    (.cond (.tmp 51) .skip (.exit 0)))
    (.seq (.block 1
    (.reg [⟨(some 54), (.mv (.tmp 10)), none⟩, ⟨(some 55), (.mv (.tmp 9)), none⟩, ⟨(some 56), (.call 79 [(.tmp 54), (.tmp 55)]), none⟩]))
    (.reg [⟨(some 52), (.mv (.tmp 11)), none⟩, ⟨(some 53), (.ar .add (.tmp 52) (.const (.int .i64 1))), none⟩, ⟨(some 11), (.mv (.tmp 53)), none⟩]))))))
    (.seq (.reg [⟨(some 57), (.ldn 3 (.tmp 7)), none⟩, ⟨(some 58), (.mv (.tmp 5)), none⟩, ⟨(some 59), (.call 99 [(.tmp 57), (.const (.int .i64 1)), (.tmp 58), (.const (.int .i64 0))]), none⟩, ⟨(some 12), (.mv (.tmp 59)), none⟩])
    (.seq (.seq
    (.reg [⟨(some 13), (.mv (.const (.int .i64 0))), none⟩])
    (.block 2
    (.loop (.seq
    (.seq (.reg [⟨(some 60), (.mv (.tmp 13)), none⟩, ⟨(some 61), (.cmp .lss (.tmp 60) (.const (.int .i64 40))), none⟩])
    (.cond (.tmp 61) .skip (.exit 2)))
    (.seq (.block 3
    (.reg [⟨(some 64), (.mv (.tmp 12)), none⟩, ⟨(some 65), (.mv (.tmp 9)), none⟩, ⟨(some 66), (.call 100 [(.tmp 64), (.tmp 65)]), none⟩]))
    (.reg [⟨(some 62), (.mv (.tmp 13)), none⟩, ⟨(some 63), (.ar .add (.tmp 62) (.const (.int .i64 1))), none⟩, ⟨(some 13), (.mv (.tmp 63)), none⟩]))))))
    (.seq (.reg [⟨(some 68), (.mv (.tmp 12)), none⟩, ⟨(some 69), (.call 101 [(.tmp 68)]), none⟩, ⟨(some 67), (.mv (.tmp 69)), none⟩, ⟨(some 70), (.ext 0 (.tmp 67)), none⟩, ⟨(some 71), (.ext 1 (.tmp 67)), none⟩, ⟨(some 72), (.ext 2 (.tmp 67)), none⟩, ⟨(some 14), (.mv (.tmp 70)), none⟩, ⟨(some 15), (.mv (.tmp 71)), none⟩, ⟨(some 16), (.mv (.tmp 72)), none⟩])
    (.seq (.seq
    (.reg [⟨(some 73), (.mv (.tmp 10)), none⟩, ⟨(some 74), (.call 78 [(.tmp 73)]), none⟩, ⟨(some 75), (.nt (.tmp 74)), none⟩, ⟨(some 76), (.mv (.tmp 75)), none⟩, ⟨(some 77), (.mv (.tmp 16)), (some (76, false))⟩, ⟨(some 78), (.nt (.tmp 77)), (some (76, false))⟩, ⟨(some 79), (.pick (.tmp 76) (.const (.bool true)) (.tmp 78)), none⟩, ⟨(some 80), (.mv (.tmp 79)), none⟩, ⟨(some 81), (.mv (.tmp 15)), (some (80, false))⟩, ⟨(some 82), (.cmp .neq (.tmp 81) (.const (.int .i64 1))), (some (80, false))⟩, ⟨(some 83), (.pick (.tmp 80) (.const (.bool true)) (.tmp 82)), none⟩])
    (.cond (.tmp 83)
    (.seq (.reg [⟨(some 4), (.mv (.const (.bool false))), none⟩]) .ret) .skip))
    (.seq (.reg [⟨(some 84), (.mv (.tmp 9)), none⟩, ⟨(some 85), (.mv (.tmp 5)), none⟩, ⟨(some 86), (.bld #[(.int .i64 0), (.int .i64 0)] [(0, (1, (.const (.int .i64 1)))), (1, (1, (.tmp 85)))]), none⟩, ⟨(some 87), (.pcall 69 [(.tmp 86)]), none⟩, ⟨(some 88), (.call 47 [(.tmp 84), (.const (.int .i64 3)), (.tmp 87)]), none⟩])
    (.seq (.reg [⟨(some 89), (.mv (.tmp 9)), none⟩, ⟨(some 90), (.mv (.tmp 5)), none⟩, ⟨(some 91), (.bld #[(.int .i64 0), (.int .i64 0)] [(0, (1, (.const (.int .i64 1)))), (1, (1, (.tmp 90)))]), none⟩, ⟨(some 92), (.pcall 69 [(.tmp 91)]), none⟩, ⟨(some 93), (.call 47 [(.tmp 89), (.const (.int .i64 4)), (.tmp 92)]), none⟩])
    (.seq (.reg [⟨(some 94), (.ldn 3 (.tmp 7)), none⟩, ⟨(some 95), (.mv (.tmp 5)), none⟩, ⟨(some 96), (.call 71 [(.tmp 94), (.const (.int .i64 1)), (.const (.int .i64 0)), (.tmp 95)]), none⟩, ⟨(some 17), (.mv (.tmp 96)), none⟩])
    (.seq (.seq
    (.reg [⟨(some 18), (.mv (.const (.int .i64 0))), none⟩])
    (.block 4
    (.loop (.seq
    (.seq (.reg [⟨(some 97), (.mv (.tmp 18)), none⟩, ⟨(some 98), (.cmp .lss (.tmp 97) (.const (.int .i64 40))), none⟩])
    (.cond (.tmp 98) .skip (.exit 4)))
    (.seq (.block 5
    (.reg [⟨(some 101), (.mv (.tmp 17)), none⟩, ⟨(some 102), (.mv (.tmp 9)), none⟩, ⟨(some 103), (.call 73 [(.tmp 101), (.tmp 102)]), none⟩]))
    (.reg [⟨(some 99), (.mv (.tmp 18)), none⟩, ⟨(some 100), (.ar .add (.tmp 99) (.const (.int .i64 1))), none⟩, ⟨(some 18), (.mv (.tmp 100)), none⟩]))))))
    (.seq (.reg [⟨(some 104), (.ldn 3 (.tmp 7)), none⟩, ⟨(some 105), (.mv (.tmp 6)), none⟩, ⟨(some 106), (.call 76 [(.tmp 104), (.const (.int .i64 1)), (.const (.int .i64 0)), (.tmp 105)]), none⟩, ⟨(some 19), (.mv (.tmp 106)), none⟩])
    (.seq (.seq
    (.reg [⟨(some 20), (.mv (.const (.int .i64 0))), none⟩])
    (.block 6
    (.loop (.seq
    (.seq (.reg [⟨(some 107), (.mv (.tmp 20)), none⟩, ⟨(some 108), (.cmp .lss (.tmp 107) (.const (.int .i64 40))), none⟩])
    (.cond (.tmp 108) .skip (.exit 6)))
    (.seq (.block 7
    (.reg [⟨(some 111), (.mv (.tmp 19)), none⟩, ⟨(some 112), (.mv (.tmp 9)), none⟩, ⟨(some 113), (.call 79 [(.tmp 111), (.tmp 112)]), none⟩]))
    (.reg [⟨(some 109), (.mv (.tmp 20)), none⟩, ⟨(some 110), (.ar .add (.tmp 109) (.const (.int .i64 1))), none⟩, ⟨(some 20), (.mv (.tmp 110)), none⟩]))))))
    (.seq (.seq
    (.reg [⟨(some 21), (.mv (.const (.int .i64 0))), none⟩])
    (.block 8
    (.loop (.seq
    (.seq (.reg [⟨(some 114), (.mv (.tmp 21)), none⟩, ⟨(some 115), (.cmp .lss (.tmp 114) (.const (.int .i64 16))), none⟩])
    (.cond (.tmp 115) .skip (.exit 8)))
    (.seq (.block 9
    (.seq (.reg [⟨(some 22), (.mv (.const (.int .u64 0))), none⟩])
    (.seq (.seq
    (.reg [⟨(some 118), (.mv (.tmp 21)), none⟩, ⟨(some 119), (.mv (.tmp 6)), none⟩, ⟨(some 120), (.pcall 67 [(.tmp 119)]), none⟩, ⟨(some 121), (.cmp .lss (.tmp 118) (.tmp 120)), none⟩])
    (.cond (.tmp 121)
    (.reg [⟨(some 122), (.mv (.tmp 6)), none⟩, ⟨(some 123), (.bld #[(.int .i64 0), (.int .i64 0)] [(0, (1, (.const (.int .i64 1)))), (1, (1, (.tmp 122)))]), none⟩, ⟨(some 124), (.pcall 69 [(.tmp 123)]), none⟩, ⟨(some 22), (.mv (.tmp 124)), none⟩]) .skip))
    (.seq (.seq
    (.reg [⟨(some 125), (.mv (.tmp 21)), none⟩, ⟨(some 126), (.cmp .eql (.tmp 125) (.const (.int .i64 0))), none⟩])
    (.cond (.tmp 126)
    (.reg [⟨(some 127), (.bld #[(.int .i64 0), (.int .i64 0)] [(0, (1, (.const (.int .i64 2)))), (1, (1, (.const (.int .i64 1))))]), none⟩, ⟨(some 128), (.pcall 69 [(.tmp 127)]), none⟩, ⟨(some 22), (.mv (.tmp 128)), none⟩]) .skip))
    (.seq (.reg [⟨(some 129), (.mv (.tmp 9)), none⟩, ⟨(some 130), (.mv (.tmp 21)), none⟩, ⟨(some 131), (.ar .add (.const (.int .i64 3)) (.tmp 130)), none⟩, ⟨(some 132), (.call 33 [(.tmp 129), (.tmp 131)]), none⟩, ⟨(some 133), (.mv (.tmp 22)), none⟩, ⟨(some 134), (.cmp .neq (.tmp 132) (.tmp 133)), none⟩])
    (.cond (.tmp 134)
    (.seq (.reg [⟨(some 4), (.mv (.const (.bool false))), none⟩]) .ret) .skip))))))
    (.reg [⟨(some 116), (.mv (.tmp 21)), none⟩, ⟨(some 117), (.ar .add (.tmp 116) (.const (.int .i64 1))), none⟩, ⟨(some 21), (.mv (.tmp 117)), none⟩]))))))
    (.seq (.reg [⟨(some 135), (.mv (.tmp 17)), none⟩, ⟨(some 136), (.call 74 [(.tmp 135)]), none⟩, ⟨(some 137), (.mv (.tmp 136)), none⟩, ⟨(some 138), (.mv (.tmp 19)), (some (137, true))⟩, ⟨(some 139), (.call 78 [(.tmp 138)]), (some (137, true))⟩, ⟨(some 140), (.pick (.tmp 137) (.tmp 139) (.const (.bool false))), none⟩, ⟨(some 141), (.mv (.tmp 140)), none⟩, ⟨(some 142), (.mv (.tmp 9)), (some (141, true))⟩, ⟨(some 143), (.call 33 [(.tmp 142), (.const (.int .i64 2))]), (some (141, true))⟩, ⟨(some 144), (.mv (.tmp 6)), (some (141, true))⟩, ⟨(some 145), (.bld #[(.int .i64 0), (.int .i64 0), (.int .i64 0)] [(0, (1, (.const (.int .i64 2)))), (1, (1, (.tmp 144))), (2, (1, (.const (.int .i64 1))))]), (some (141, true))⟩, ⟨(some 146), (.pcall 59 [(.tmp 145)]), (some (141, true))⟩, ⟨(some 147), (.cmp .eql (.tmp 143) (.tmp 146)), (some (141, true))⟩, ⟨(some 148), (.pick (.tmp 141) (.tmp 147) (.const (.bool false))), none⟩, ⟨(some 4), (.mv (.tmp 148)), none⟩]) .ret))))))))))))))))))))))⟩ := by kernel_rfl

/-- allotment/allotmentlaw2.awake -/
theorem tr28 : trF Try.prog pures Try.f28 = some
  ⟨27, [(.t 0)],
    (.seq (.reg [⟨(some 0), (.mv (.const (.bool false))), none⟩])
    (.seq (.reg [⟨(some 2), (.call 29 [(.const (.int .i64 2))]), none⟩, ⟨(some 1), (.mv (.tmp 2)), none⟩])
    (.seq (.seq
    (.reg [⟨(some 3), (.mv (.tmp 1)), none⟩, ⟨(some 4), (.pnil false (.tmp 3)), none⟩])
    (.cond (.tmp 4)
    (.seq (.reg [⟨(some 0), (.mv (.const (.bool false))), none⟩]) .ret) .skip))
    (.seq (.reg [⟨(some 5), (.mv (.tmp 1)), none⟩, ⟨(some 6), (.call 48 [(.tmp 5)]), none⟩, ⟨(some 7), (.cmp .eql (.tmp 6) (.const (.int .i64 2))), none⟩, ⟨(some 8), (.mv (.tmp 7)), none⟩, ⟨(some 9), (.mv (.tmp 1)), (some (8, true))⟩, ⟨(some 10), (.call 32 [(.tmp 9), (.const (.int .i64 0)), (.const (.int .i64 1)), (.const (.int .u64 0)), (.const (.int .u64 5))]), (some (8, true))⟩, ⟨(some 11), (.pick (.tmp 8) (.tmp 10) (.const (.bool false))), none⟩, ⟨(some 12), (.mv (.tmp 11)), none⟩, ⟨(some 13), (.mv (.tmp 1)), (some (12, true))⟩, ⟨(some 14), (.call 30 [(.tmp 13), (.const (.int .i64 0)), (.const (.int .i64 1)), (.const (.int .u64 2))]), (some (12, true))⟩, ⟨(some 15), (.cmp .eql (.tmp 14) (.const (.int .u64 5))), (some (12, true))⟩, ⟨(some 16), (.pick (.tmp 12) (.tmp 15) (.const (.bool false))), none⟩, ⟨(some 17), (.mv (.tmp 16)), none⟩, ⟨(some 18), (.mv (.tmp 1)), (some (17, true))⟩, ⟨(some 19), (.call 31 [(.tmp 18), (.const (.int .i64 1)), (.const (.int .i64 1))]), (some (17, true))⟩, ⟨(some 20), (.cmp .eql (.tmp 19) (.const (.int .u64 7))), (some (17, true))⟩, ⟨(some 21), (.pick (.tmp 17) (.tmp 20) (.const (.bool false))), none⟩, ⟨(some 22), (.mv (.tmp 21)), none⟩, ⟨(some 23), (.mv (.tmp 1)), (some (22, true))⟩, ⟨(some 24), (.call 34 [(.tmp 23)]), (some (22, true))⟩, ⟨(some 25), (.cmp .eql (.tmp 24) (.const (.int .i64 3))), (some (22, true))⟩, ⟨(some 26), (.pick (.tmp 22) (.tmp 25) (.const (.bool false))), none⟩, ⟨(some 0), (.mv (.tmp 26)), none⟩]) .ret))))⟩ := by kernel_rfl

/-- allotment/allotmentlaw2.WordsGuards$1 -/
theorem tr35 : trF Try.prog pures Try.f35 = some
  ⟨16, [],
    (.seq (.seq
    (.reg [⟨(some 3), (.mv (.const (.int .i64 0))), none⟩])
    (.block 0
    (.loop (.seq
    (.seq (.reg [⟨(some 4), (.mv (.tmp 3)), none⟩, ⟨(some 5), (.ld1 (.tmp 0)), none⟩, ⟨(some 6), (.cmp .lss (.tmp 4) (.tmp 5)), none⟩])
    (.cond (.tmp 6) .skip (.exit 0)))
    (.seq (.block 1
    (.reg [⟨(some 9), (.ld1 (.tmp 1)), none⟩, ⟨(some 10), (.call 30 [(.tmp 9), (.const (.int .i64 0)), (.const (.int .i64 1)), (.const (.int .u64 1))]), none⟩]))
    (.reg [⟨(some 7), (.mv (.tmp 3)), none⟩, ⟨(some 8), (.ar .add (.tmp 7) (.const (.int .i64 1))), none⟩, ⟨(some 3), (.mv (.tmp 8)), none⟩]))))))
    (.seq (.reg [⟨(some 11), (.mkf (.func 37) [] [(.tmp 1), (.tmp 2)]), none⟩, ⟨(some 12), (.call 36 [(.tmp 11)]), none⟩, ⟨(some 13), (.nt (.tmp 12)), none⟩])
    (.cond (.tmp 13)
    (.reg [⟨(some 14), (.ld1 (.tmp 1)), none⟩, ⟨(some 15), (.call 38 [(.tmp 14), (.const (.int .i64 1)), (.const (.int .i64 3)), (.const (.int .u64 9))]), none⟩]) .skip)))⟩ := by kernel_rfl

/-- allotment/allotmentlaw2.WordsGuards$1$1 -/
theorem tr37 : trF Try.prog pures Try.f37 = some
  ⟨7, [],
    (.seq (.reg [⟨(some 2), (.ld1 (.tmp 0)), none⟩, ⟨(some 3), (.call 38 [(.tmp 2), (.const (.int .i64 1)), (.const (.int .i64 2)), (.const (.int .u64 7))]), none⟩])
    (.reg [⟨(some 4), (.ld1 (.tmp 0)), none⟩, ⟨(some 5), (.ld1 (.tmp 1)), none⟩, ⟨(some 6), (.call 31 [(.tmp 4), (.const (.int .i64 1)), (.tmp 5)]), none⟩]))⟩ := by kernel_rfl

/-- allotment/allotmentlaw2.WordsGuards$2 -/
theorem tr39 : trF Try.prog pures Try.f39 = some
  ⟨3, [],
    (.reg [⟨(some 1), (.ld1 (.tmp 0)), none⟩, ⟨(some 2), (.call 31 [(.tmp 1), (.const (.int .i64 0)), (.const (.int .i64 0))]), none⟩])⟩ := by kernel_rfl

/-- allotment/allotmentlaw2.WordsGuards$3 -/
theorem tr40 : trF Try.prog pures Try.f40 = some
  ⟨5, [], .no⟩ := by kernel_rfl

/-- allotment/allotmentlaw2.Fill -/
theorem tr41 : trF Try.prog pures Try.f41 = some
  ⟨26, [(.t 2)],
    (.seq (.reg [⟨(some 2), (.mv (.const (.pointer none))), none⟩])
    (.seq (.reg [⟨(some 5), (.mv (.tmp 0)), none⟩, ⟨(some 6), (.len (.tmp 5)), none⟩, ⟨(some 7), (.call 29 [(.tmp 6)]), none⟩, ⟨(some 3), (.mv (.tmp 7)), none⟩])
    (.seq (.seq
    (.reg [⟨(some 4), (.mv (.const (.int .i64 0))), none⟩])
    (.block 0
    (.loop (.seq
    (.seq (.reg [⟨(some 8), (.mv (.tmp 4)), none⟩, ⟨(some 9), (.mv (.tmp 0)), none⟩, ⟨(some 10), (.len (.tmp 9)), none⟩, ⟨(some 11), (.cmp .lss (.tmp 8) (.tmp 10)), none⟩, ⟨(some 12), (.mv (.tmp 11)), none⟩, ⟨(some 13), (.mv (.tmp 3)), (some (12, true))⟩, ⟨(some 14), (.pnil true (.tmp 13)), (some (12, true))⟩, ⟨(some 15), (.pick (.tmp 12) (.tmp 14) (.const (.bool false))), none⟩])
    (.cond (.tmp 15) .skip (.exit 0)))
    (.seq (.block 1
    (.reg [⟨(some 18), (.mv (.tmp 3)), none⟩, ⟨(some 19), (.mv (.tmp 4)), none⟩, ⟨(some 20), (.mv (.tmp 0)), none⟩, ⟨(some 21), (.mv (.tmp 4)), none⟩, ⟨(some 22), (.iad 1 (.tmp 20) (.tmp 21)), none⟩, ⟨(some 23), (.ld1 (.tmp 22)), none⟩, ⟨(some 24), (.call 47 [(.tmp 18), (.tmp 19), (.tmp 23)]), none⟩]))
    (.reg [⟨(some 16), (.mv (.tmp 4)), none⟩, ⟨(some 17), (.ar .add (.tmp 16) (.const (.int .i64 1))), none⟩, ⟨(some 4), (.mv (.tmp 17)), none⟩]))))))
    (.seq (.reg [⟨(some 25), (.mv (.tmp 3)), none⟩, ⟨(some 2), (.mv (.tmp 25)), none⟩]) .ret))))⟩ := by kernel_rfl

/-- allotment/allotmentlaw2.WordsKnown$1 -/
theorem tr44 : trF Try.prog pures Try.f44 = some
  ⟨3, [],
    (.reg [⟨(some 1), (.ld1 (.tmp 0)), none⟩, ⟨(some 2), (.call 31 [(.tmp 1), (.const (.int .i64 0)), (.const (.int .i64 2))]), none⟩])⟩ := by kernel_rfl

/-- allotment/allotmentlaw2.WordsKnown$2 -/
theorem tr45 : trF Try.prog pures Try.f45 = some
  ⟨3, [],
    (.reg [⟨(some 1), (.ld1 (.tmp 0)), none⟩, ⟨(some 2), (.call 38 [(.tmp 1), (.const (.int .i64 0)), (.const (.int .i64 (-1))), (.const (.int .u64 5))]), none⟩])⟩ := by kernel_rfl

/-- allotment/allotmentlaw2.WordsKnown$3 -/
theorem tr46 : trF Try.prog pures Try.f46 = some
  ⟨3, [],
    (.reg [⟨(some 1), (.ld1 (.tmp 0)), none⟩, ⟨(some 2), (.call 38 [(.tmp 1), (.const (.int .i64 3)), (.const (.int .i64 0)), (.const (.int .u64 9))]), none⟩])⟩ := by kernel_rfl

/-- allotment/allotmentlaw2.Model -/
theorem tr49 : trF Try.prog pures Try.f49 = some
  ⟨14, [(.t 2)],
    (.seq (.reg [⟨(some 2), (.mv (.const (.pointer none))), none⟩])
    (.seq (.reg [⟨(some 4), (.mv (.tmp 0)), none⟩, ⟨(some 5), (.len (.tmp 4)), none⟩, ⟨(some 6), (.call 114 [(.tmp 5)]), none⟩, ⟨(some 3), (.mv (.tmp 6)), none⟩])
    (.seq (.reg [⟨(some 7), (.mv (.tmp 3)), none⟩, ⟨(some 8), (.nilck (.tmp 7)), none⟩, ⟨(some 9), (.fad 0 (.tmp 8)), none⟩, ⟨(some 10), (.ld1 (.tmp 9)), none⟩, ⟨(some 11), (.mv (.tmp 0)), none⟩, ⟨(some 12), (.cpy 1 (.tmp 10) (.tmp 11)), none⟩])
    (.seq (.reg [⟨(some 13), (.mv (.tmp 3)), none⟩, ⟨(some 2), (.mv (.tmp 13)), none⟩]) .ret))))⟩ := by kernel_rfl

/-- allotment/allotmentlaw2.WordsPlays$1 -/
theorem tr50 : trF Try.prog pures Try.f50 = some
  ⟨10, [],
    (.reg [⟨(some 5), (.ld1 (.tmp 0)), none⟩, ⟨(some 6), (.ld1 (.tmp 1)), none⟩, ⟨(some 7), (.ldn 5 (.tmp 2)), none⟩, ⟨(some 8), (.ld1 (.tmp 3)), none⟩, ⟨(some 9), (.call 51 [(.tmp 5), (.tmp 6), (.tmp 7), (.tmp 8)]), none⟩, ⟨none, (.st1 (.tmp 4) (.tmp 9)), none⟩])⟩ := by kernel_rfl

/-- allotment/allotmentlaw2.act -/
theorem tr51 : trF Try.prog pures Try.f51 = some
  ⟨107, [(.t 8)],
    (.seq (.reg [⟨(some 6), (.box 37 (.tmp 2)), none⟩, ⟨(some 8), (.mv (.const (.bool false))), none⟩])
    (.seq (.block 0
    (.seq (.reg [⟨(some 13), (.fad 0 (.tmp 6)), none⟩, ⟨(some 14), (.ld1 (.tmp 13)), none⟩, ⟨(some 15), (.cmp .leq (.tmp 14) (.const (.int .i64 1))), none⟩, ⟨(some 12), (.mv (.tmp 15)), none⟩])
    (.cond (.tmp 12)
    (.seq (.reg [⟨(some 16), (.mv (.tmp 0)), none⟩, ⟨(some 17), (.fad 1 (.tmp 6)), none⟩, ⟨(some 18), (.ld1 (.tmp 17)), none⟩, ⟨(some 19), (.fad 2 (.tmp 6)), none⟩, ⟨(some 20), (.ld1 (.tmp 19)), none⟩, ⟨(some 21), (.call 31 [(.tmp 16), (.tmp 18), (.tmp 20)]), none⟩, ⟨(some 9), (.mv (.tmp 21)), none⟩])
    (.seq (.reg [⟨(some 22), (.mv (.tmp 3)), none⟩, ⟨(some 23), (.nt (.tmp 22)), none⟩, ⟨(some 24), (.mv (.tmp 23)), none⟩, ⟨(some 25), (.mv (.tmp 9)), (some (24, false))⟩, ⟨(some 26), (.mv (.tmp 1)), (some (24, false))⟩, ⟨(some 27), (.fad 1 (.tmp 6)), (some (24, false))⟩, ⟨(some 28), (.ld1 (.tmp 27)), (some (24, false))⟩, ⟨(some 29), (.fad 2 (.tmp 6)), (some (24, false))⟩, ⟨(some 30), (.ld1 (.tmp 29)), (some (24, false))⟩, ⟨(some 31), (.call 115 [(.tmp 26), (.tmp 28), (.tmp 30)]), (some (24, false))⟩, ⟨(some 32), (.cmp .eql (.tmp 25) (.tmp 31)), (some (24, false))⟩, ⟨(some 33), (.pick (.tmp 24) (.const (.bool true)) (.tmp 32)), none⟩, ⟨(some 8), (.mv (.tmp 33)), none⟩]) .ret))
    (.seq (.reg [⟨(some 35), (.fad 0 (.tmp 6)), none⟩, ⟨(some 36), (.ld1 (.tmp 35)), none⟩, ⟨(some 37), (.cmp .eql (.tmp 36) (.const (.int .i64 2))), none⟩, ⟨(some 34), (.mv (.tmp 37)), none⟩])
    (.cond (.tmp 34)
    (.seq (.reg [⟨(some 38), (.mv (.tmp 0)), none⟩, ⟨(some 39), (.fad 1 (.tmp 6)), none⟩, ⟨(some 40), (.ld1 (.tmp 39)), none⟩, ⟨(some 41), (.fad 2 (.tmp 6)), none⟩, ⟨(some 42), (.ld1 (.tmp 41)), none⟩, ⟨(some 43), (.fad 4 (.tmp 6)), none⟩, ⟨(some 44), (.ld1 (.tmp 43)), none⟩, ⟨(some 45), (.call 38 [(.tmp 38), (.tmp 40), (.tmp 42), (.tmp 44)]), none⟩])
    (.seq (.seq
    (.reg [⟨(some 46), (.mv (.tmp 3)), none⟩])
    (.cond (.tmp 46)
    (.reg [⟨(some 47), (.mv (.tmp 1)), none⟩, ⟨(some 48), (.fad 1 (.tmp 6)), none⟩, ⟨(some 49), (.ld1 (.tmp 48)), none⟩, ⟨(some 50), (.fad 2 (.tmp 6)), none⟩, ⟨(some 51), (.ld1 (.tmp 50)), none⟩, ⟨(some 52), (.fad 4 (.tmp 6)), none⟩, ⟨(some 53), (.ld1 (.tmp 52)), none⟩, ⟨(some 54), (.call 116 [(.tmp 47), (.tmp 49), (.tmp 51), (.tmp 53)]), none⟩]) .skip))
    (.seq (.reg [⟨(some 8), (.mv (.const (.bool true))), none⟩]) .ret)))
    (.seq (.reg [⟨(some 56), (.fad 0 (.tmp 6)), none⟩, ⟨(some 57), (.ld1 (.tmp 56)), none⟩, ⟨(some 58), (.cmp .leq (.tmp 57) (.const (.int .i64 4))), none⟩, ⟨(some 55), (.mv (.tmp 58)), none⟩])
    (.cond (.tmp 55)
    (.seq (.reg [⟨(some 59), (.mv (.tmp 0)), none⟩, ⟨(some 60), (.fad 1 (.tmp 6)), none⟩, ⟨(some 61), (.ld1 (.tmp 60)), none⟩, ⟨(some 62), (.fad 2 (.tmp 6)), none⟩, ⟨(some 63), (.ld1 (.tmp 62)), none⟩, ⟨(some 64), (.fad 3 (.tmp 6)), none⟩, ⟨(some 65), (.ld1 (.tmp 64)), none⟩, ⟨(some 66), (.fad 4 (.tmp 6)), none⟩, ⟨(some 67), (.ld1 (.tmp 66)), none⟩, ⟨(some 68), (.call 32 [(.tmp 59), (.tmp 61), (.tmp 63), (.tmp 65), (.tmp 67)]), none⟩, ⟨(some 10), (.mv (.tmp 68)), none⟩])
    (.seq (.reg [⟨(some 69), (.mv (.tmp 3)), none⟩, ⟨(some 70), (.nt (.tmp 69)), none⟩, ⟨(some 71), (.mv (.tmp 70)), none⟩, ⟨(some 72), (.mv (.tmp 10)), (some (71, false))⟩, ⟨(some 73), (.mv (.tmp 1)), (some (71, false))⟩, ⟨(some 74), (.fad 1 (.tmp 6)), (some (71, false))⟩, ⟨(some 75), (.ld1 (.tmp 74)), (some (71, false))⟩, ⟨(some 76), (.fad 2 (.tmp 6)), (some (71, false))⟩, ⟨(some 77), (.ld1 (.tmp 76)), (some (71, false))⟩, ⟨(some 78), (.fad 3 (.tmp 6)), (some (71, false))⟩, ⟨(some 79), (.ld1 (.tmp 78)), (some (71, false))⟩, ⟨(some 80), (.fad 4 (.tmp 6)), (some (71, false))⟩, ⟨(some 81), (.ld1 (.tmp 80)), (some (71, false))⟩, ⟨(some 82), (.call 117 [(.tmp 73), (.tmp 75), (.tmp 77), (.tmp 79), (.tmp 81)]), (some (71, false))⟩, ⟨(some 83), (.beq false (.tmp 72) (.tmp 82)), (some (71, false))⟩, ⟨(some 84), (.pick (.tmp 71) (.const (.bool true)) (.tmp 83)), none⟩, ⟨(some 8), (.mv (.tmp 84)), none⟩]) .ret)) .skip)))))))
    (.seq (.reg [⟨(some 85), (.mv (.tmp 0)), none⟩, ⟨(some 86), (.fad 1 (.tmp 6)), none⟩, ⟨(some 87), (.ld1 (.tmp 86)), none⟩, ⟨(some 88), (.fad 2 (.tmp 6)), none⟩, ⟨(some 89), (.ld1 (.tmp 88)), none⟩, ⟨(some 90), (.fad 4 (.tmp 6)), none⟩, ⟨(some 91), (.ld1 (.tmp 90)), none⟩, ⟨(some 92), (.call 30 [(.tmp 85), (.tmp 87), (.tmp 89), (.tmp 91)]), none⟩, ⟨(some 11), (.mv (.tmp 92)), none⟩])
    (.seq (.reg [⟨(some 93), (.mv (.tmp 3)), none⟩, ⟨(some 94), (.nt (.tmp 93)), none⟩, ⟨(some 95), (.mv (.tmp 94)), none⟩, ⟨(some 96), (.mv (.tmp 11)), (some (95, false))⟩, ⟨(some 97), (.mv (.tmp 1)), (some (95, false))⟩, ⟨(some 98), (.fad 1 (.tmp 6)), (some (95, false))⟩, ⟨(some 99), (.ld1 (.tmp 98)), (some (95, false))⟩, ⟨(some 100), (.fad 2 (.tmp 6)), (some (95, false))⟩, ⟨(some 101), (.ld1 (.tmp 100)), (some (95, false))⟩, ⟨(some 102), (.fad 4 (.tmp 6)), (some (95, false))⟩, ⟨(some 103), (.ld1 (.tmp 102)), (some (95, false))⟩, ⟨(some 104), (.call 118 [(.tmp 97), (.tmp 99), (.tmp 101), (.tmp 103)]), (some (95, false))⟩, ⟨(some 105), (.cmp .eql (.tmp 96) (.tmp 104)), (some (95, false))⟩, ⟨(some 106), (.pick (.tmp 95) (.const (.bool true)) (.tmp 105)), none⟩, ⟨(some 8), (.mv (.tmp 106)), none⟩]) .ret))))⟩ := by kernel_rfl

/-- allotment/allotmentlaw10.awake -/
theorem tr53 : trF Try.prog pures Try.f53 = some
  ⟨54, [(.t 0)],
    (.seq (.reg [⟨(some 0), (.mv (.const (.bool false))), none⟩])
    (.seq (.reg [⟨(some 8), (.bld #[(.int .i64 0), (.int .i64 0), (.int .i64 0)] [(0, (1, (.const (.int .i64 3)))), (1, (1, (.const (.int .i64 1))))]), none⟩, ⟨(some 1), (.alc 57 (.agg #[(.int .i64 0), (.int .i64 0), (.int .i64 0)])), none⟩, ⟨none, (.stn 3 (.tmp 1) (.tmp 8)), none⟩])
    (.seq (.reg [⟨(some 9), (.ldn 3 (.tmp 1)), none⟩, ⟨(some 10), (.pcall 54 [(.tmp 9)]), none⟩, ⟨(some 11), (.mks 26 8 (.int .u64 0) (.tmp 10) (.tmp 10)), none⟩, ⟨(some 2), (.mv (.tmp 11)), none⟩])
    (.seq (.reg [⟨(some 12), (.mv (.tmp 2)), none⟩, ⟨(some 13), (.mv (.tmp 2)), none⟩, ⟨(some 14), (.iad 1 (.tmp 12) (.const (.int .i64 1))), none⟩, ⟨none, (.st1 (.tmp 14) (.const (.int .u64 5))), none⟩, ⟨(some 15), (.iad 1 (.tmp 13) (.const (.int .i64 2))), none⟩, ⟨none, (.st1 (.tmp 15) (.const (.int .u64 5))), none⟩])
    (.seq (.reg [⟨(some 16), (.mv (.tmp 2)), none⟩, ⟨(some 17), (.call 41 [(.tmp 16)]), none⟩, ⟨(some 3), (.mv (.tmp 17)), none⟩])
    (.seq (.reg [⟨(some 18), (.ldn 3 (.tmp 1)), none⟩, ⟨(some 19), (.call 55 [(.tmp 18), (.const (.int .i64 0)), (.const (.int .i64 0))]), none⟩, ⟨(some 4), (.mv (.tmp 19)), none⟩])
    (.seq (.seq
    (.reg [⟨(some 20), (.mv (.tmp 3)), none⟩, ⟨(some 21), (.pnil false (.tmp 20)), none⟩, ⟨(some 22), (.mv (.tmp 21)), none⟩, ⟨(some 23), (.mv (.tmp 4)), (some (22, false))⟩, ⟨(some 24), (.pnil false (.tmp 23)), (some (22, false))⟩, ⟨(some 25), (.pick (.tmp 22) (.const (.bool true)) (.tmp 24)), none⟩])
    (.cond (.tmp 25)
    (.seq (.reg [⟨(some 0), (.mv (.const (.bool false))), none⟩]) .ret) .skip))
    (.seq (.seq
    (.reg [⟨(some 5), (.mv (.const (.int .i64 0))), none⟩])
    (.block 0
    (.loop (.seq
    (.seq (.reg [⟨(some 26), (.mv (.tmp 5)), none⟩, ⟨(some 27), (.cmp .lss (.tmp 26) (.const (.int .i64 4))), none⟩])
    (.cond (.tmp 27) .skip (.exit 0)))
    (.seq (.block 1
    (.reg [⟨(some 30), (.mv (.tmp 4)), none⟩, ⟨(some 31), (.mv (.tmp 3)), none⟩, ⟨(some 32), (.call 56 [(.tmp 30), (.tmp 31)]), none⟩]))
    (.reg [⟨(some 28), (.mv (.tmp 5)), none⟩, ⟨(some 29), (.ar .add (.tmp 28) (.const (.int .i64 1))), none⟩, ⟨(some 5), (.mv (.tmp 29)), none⟩]))))))
    (.seq (.reg [⟨(some 34), (.mv (.tmp 4)), none⟩, ⟨(some 35), (.call 57 [(.tmp 34)]), none⟩, ⟨(some 33), (.mv (.tmp 35)), none⟩, ⟨(some 36), (.ext 0 (.tmp 33)), none⟩, ⟨(some 37), (.ext 1 (.tmp 33)), none⟩, ⟨(some 6), (.mv (.tmp 36)), none⟩, ⟨(some 7), (.mv (.tmp 37)), none⟩])
    (.seq (.reg [⟨(some 38), (.mv (.tmp 4)), none⟩, ⟨(some 39), (.call 58 [(.tmp 38)]), none⟩, ⟨(some 40), (.mv (.tmp 39)), none⟩, ⟨(some 41), (.mv (.tmp 7)), (some (40, true))⟩, ⟨(some 42), (.pick (.tmp 40) (.tmp 41) (.const (.bool false))), none⟩, ⟨(some 43), (.mv (.tmp 42)), none⟩, ⟨(some 44), (.mv (.tmp 6)), (some (43, true))⟩, ⟨(some 45), (.cmp .eql (.tmp 44) (.const (.int .i64 2))), (some (43, true))⟩, ⟨(some 46), (.pick (.tmp 43) (.tmp 45) (.const (.bool false))), none⟩, ⟨(some 47), (.mv (.tmp 46)), none⟩, ⟨(some 48), (.mv (.tmp 3)), (some (47, true))⟩, ⟨(some 49), (.call 33 [(.tmp 48), (.const (.int .i64 3))]), (some (47, true))⟩, ⟨(some 50), (.bld #[(.int .i64 0), (.int .i64 0), (.int .i64 0)] [(0, (1, (.const (.int .i64 1))))]), (some (47, true))⟩, ⟨(some 51), (.pcall 59 [(.tmp 50)]), (some (47, true))⟩, ⟨(some 52), (.cmp .eql (.tmp 49) (.tmp 51)), (some (47, true))⟩, ⟨(some 53), (.pick (.tmp 47) (.tmp 52) (.const (.bool false))), none⟩, ⟨(some 0), (.mv (.tmp 53)), none⟩]) .ret))))))))))⟩ := by kernel_rfl

/-- allotment/allotmentlaw8.Fair -/
theorem tr61 : trF Try.prog pures Try.f61 = some
  ⟨14, [(.t 4)],
    (.seq (.reg [⟨(some 2), (.box 57 (.tmp 0)), none⟩, ⟨(some 4), (.mv (.const (.bool false))), none⟩])
    (.seq (.reg [⟨(some 5), (.ldn 3 (.tmp 2)), none⟩, ⟨(some 6), (.pcall 92 [(.tmp 5)]), none⟩, ⟨(some 7), (.mv (.tmp 6)), none⟩, ⟨(some 8), (.mv (.tmp 1)), (some (7, true))⟩, ⟨(some 9), (.len (.tmp 8)), (some (7, true))⟩, ⟨(some 10), (.ldn 3 (.tmp 2)), (some (7, true))⟩, ⟨(some 11), (.pcall 54 [(.tmp 10)]), (some (7, true))⟩, ⟨(some 12), (.cmp .eql (.tmp 9) (.tmp 11)), (some (7, true))⟩, ⟨(some 13), (.pick (.tmp 7) (.tmp 12) (.const (.bool false))), none⟩, ⟨(some 4), (.mv (.tmp 13)), none⟩]) .ret))⟩ := by kernel_rfl

/-- allotment/allotmentlaw8.Steps -/
theorem tr65 : trF Try.prog pures Try.f65 = some
  ⟨30, [(.t 4)],
    (.seq (.reg [⟨(some 4), (.mv (.const (.bool false))), none⟩])
    (.seq (.draw (.take ⟨(some 5), (.mv (.tmp 0)), none⟩ (.take ⟨(some 7), (.mv (.tmp 1)), none⟩ (.take ⟨(some 8), (.nilck (.tmp 7)), none⟩ (.take ⟨(some 9), (.fad 1 (.tmp 8)), none⟩ (.take ⟨(some 10), (.ld1 (.tmp 9)), none⟩ (.alt false ⟨(some 6), (.call 34 [(.tmp 5)]), none⟩ (.take ⟨(some 11), (.cmp .eql (.tmp 6) (.tmp 10)), none⟩ (.take ⟨(some 12), (.mv (.tmp 11)), none⟩ (.take ⟨(some 13), (.mv (.tmp 0)), (some (12, true))⟩ (.take ⟨(some 15), (.mv (.tmp 1)), (some (12, true))⟩ (.take ⟨(some 16), (.nilck (.tmp 15)), (some (12, true))⟩ (.take ⟨(some 17), (.fad 2 (.tmp 16)), (some (12, true))⟩ (.take ⟨(some 18), (.ldn 6 (.tmp 17)), (some (12, true))⟩ (.alt false ⟨(some 14), (.call 43 [(.tmp 13)]), (some (12, true))⟩ (.take ⟨(some 19), (.aeq false [(0, false), (1, false), (2, false), (3, false), (4, false), (5, true)] (.tmp 14) (.tmp 18)), (some (12, true))⟩ (.take ⟨(some 20), (.pick (.tmp 12) (.tmp 19) (.const (.bool false))), none⟩ (.take ⟨(some 21), (.mv (.tmp 20)), none⟩ (.take ⟨(some 22), (.mv (.tmp 0)), (some (21, true))⟩ (.take ⟨(some 24), (.mv (.tmp 1)), (some (21, true))⟩ (.take ⟨(some 25), (.nilck (.tmp 24)), (some (21, true))⟩ (.take ⟨(some 26), (.fad 0 (.tmp 25)), (some (21, true))⟩ (.take ⟨(some 27), (.ld1 (.tmp 26)), (some (21, true))⟩ (.alt false ⟨(some 23), (.call 42 [(.tmp 22)]), (some (21, true))⟩ (.alt false ⟨(some 28), (.call 52 [(.tmp 23), (.tmp 27)]), (some (21, true))⟩ (.take ⟨(some 29), (.pick (.tmp 21) (.tmp 28) (.const (.bool false))), none⟩ (.take ⟨(some 4), (.mv (.tmp 29)), none⟩ .done)) .stop) .stop))))))))) .stop)))))))) .stop))))))) .ret))⟩ := by kernel_rfl

/-- allotment/allotmentlaw11.awake -/
theorem tr66 : trF Try.prog pures Try.f66 = some
  ⟨40, [(.t 0)],
    (.seq (.reg [⟨(some 0), (.mv (.const (.bool false))), none⟩])
    (.seq (.reg [⟨(some 7), (.call 108 [(.const (.int .i64 3))]), none⟩, ⟨(some 6), (.mv (.tmp 7)), none⟩, ⟨(some 8), (.ext 0 (.tmp 6)), none⟩, ⟨(some 9), (.ext 1 (.tmp 6)), none⟩, ⟨(some 1), (.alc 57 (.agg #[(.int .i64 0), (.int .i64 0), (.int .i64 0)])), none⟩, ⟨none, (.stn 3 (.tmp 1) (.tmp 8)), none⟩, ⟨(some 2), (.mv (.tmp 9)), none⟩])
    (.seq (.reg [⟨(some 10), (.mv (.tmp 2)), none⟩, ⟨(some 11), (.call 41 [(.tmp 10)]), none⟩, ⟨(some 3), (.mv (.tmp 11)), none⟩])
    (.seq (.reg [⟨(some 12), (.ldn 3 (.tmp 1)), none⟩, ⟨(some 13), (.call 71 [(.tmp 12), (.const (.int .i64 1)), (.const (.int .i64 0)), (.const (.int .i64 3))]), none⟩, ⟨(some 4), (.mv (.tmp 13)), none⟩])
    (.seq (.seq
    (.reg [⟨(some 14), (.mv (.tmp 3)), none⟩, ⟨(some 15), (.pnil false (.tmp 14)), none⟩, ⟨(some 16), (.mv (.tmp 15)), none⟩, ⟨(some 17), (.mv (.tmp 4)), (some (16, false))⟩, ⟨(some 18), (.pnil false (.tmp 17)), (some (16, false))⟩, ⟨(some 19), (.pick (.tmp 16) (.const (.bool true)) (.tmp 18)), none⟩])
    (.cond (.tmp 19)
    (.seq (.reg [⟨(some 0), (.mv (.const (.bool false))), none⟩]) .ret) .skip))
    (.seq (.seq
    (.reg [⟨(some 5), (.mv (.const (.int .i64 0))), none⟩])
    (.block 0
    (.loop (.seq
    (.seq (.reg [⟨(some 20), (.mv (.tmp 5)), none⟩, ⟨(some 21), (.cmp .lss (.tmp 20) (.const (.int .i64 3))), none⟩])
    (.cond (.tmp 21) .skip (.exit 0)))
    (.seq (.block 1
    (.reg [⟨(some 24), (.mv (.tmp 4)), none⟩, ⟨(some 25), (.mv (.tmp 3)), none⟩, ⟨(some 26), (.call 73 [(.tmp 24), (.tmp 25)]), none⟩]))
    (.reg [⟨(some 22), (.mv (.tmp 5)), none⟩, ⟨(some 23), (.ar .add (.tmp 22) (.const (.int .i64 1))), none⟩, ⟨(some 5), (.mv (.tmp 23)), none⟩]))))))
    (.seq (.reg [⟨(some 27), (.mv (.tmp 4)), none⟩, ⟨(some 28), (.call 72 [(.tmp 27)]), none⟩, ⟨(some 29), (.mv (.tmp 28)), none⟩, ⟨(some 30), (.mv (.tmp 4)), (some (29, true))⟩, ⟨(some 31), (.call 74 [(.tmp 30)]), (some (29, true))⟩, ⟨(some 32), (.pick (.tmp 29) (.tmp 31) (.const (.bool false))), none⟩, ⟨(some 33), (.mv (.tmp 32)), none⟩, ⟨(some 34), (.mv (.tmp 3)), (some (33, true))⟩, ⟨(some 35), (.call 33 [(.tmp 34), (.const (.int .i64 2))]), (some (33, true))⟩, ⟨(some 36), (.bld #[(.int .i64 0), (.int .i64 0), (.int .i64 0)] [(0, (1, (.const (.int .i64 1)))), (1, (1, (.const (.int .i64 1))))]), (some (33, true))⟩, ⟨(some 37), (.pcall 59 [(.tmp 36)]), (some (33, true))⟩, ⟨(some 38), (.cmp .eql (.tmp 35) (.tmp 37)), (some (33, true))⟩, ⟨(some 39), (.pick (.tmp 33) (.tmp 38) (.const (.bool false))), none⟩, ⟨(some 0), (.mv (.tmp 39)), none⟩]) .ret)))))))⟩ := by kernel_rfl

/-- allotment/allotmentlaw11.Open -/
theorem tr68 : trF Try.prog pures Try.f68 = some
  ⟨6, [(.t 2)],
    (.seq (.reg [⟨(some 2), (.mv (.const (.int .u64 0))), none⟩])
    (.seq (.reg [⟨(some 3), (.mv (.tmp 0)), none⟩, ⟨(some 4), (.bld #[(.int .i64 0), (.int .i64 0)] [(0, (1, (.const (.int .i64 1)))), (1, (1, (.tmp 3)))]), none⟩, ⟨(some 5), (.pcall 69 [(.tmp 4)]), none⟩, ⟨(some 2), (.mv (.tmp 5)), none⟩]) .ret))⟩ := by kernel_rfl

/-- allotment/allotmentlaw9.One -/
theorem tr70 : trF Try.prog pures Try.f70 = some
  ⟨23, [(.cn 4 3), (.t 5)],
    (.seq (.reg [⟨(some 4), (.alc 57 (.agg #[(.int .i64 0), (.int .i64 0), (.int .i64 0)])), none⟩, ⟨(some 5), (.mv (.const (.slice none 0 0))), none⟩])
    (.seq (.reg [⟨(some 8), (.bld #[(.int .i64 0), (.int .i64 0), (.int .i64 0)] [(0, (1, (.const (.int .i64 1)))), (1, (1, (.const (.int .i64 2))))]), none⟩, ⟨(some 6), (.alc 57 (.agg #[(.int .i64 0), (.int .i64 0), (.int .i64 0)])), none⟩, ⟨none, (.stn 3 (.tmp 6) (.tmp 8)), none⟩])
    (.seq (.reg [⟨(some 9), (.ldn 3 (.tmp 6)), none⟩, ⟨(some 10), (.pcall 54 [(.tmp 9)]), none⟩, ⟨(some 11), (.mks 26 8 (.int .u64 0) (.tmp 10) (.tmp 10)), none⟩, ⟨(some 7), (.mv (.tmp 11)), none⟩])
    (.seq (.reg [⟨(some 12), (.mv (.tmp 7)), none⟩, ⟨(some 13), (.mv (.tmp 0)), none⟩, ⟨(some 14), (.bld #[(.int .i64 0), (.int .i64 0), (.int .i64 0)] [(0, (1, (.const (.int .i64 2)))), (1, (1, (.tmp 13)))]), none⟩, ⟨(some 15), (.pcall 59 [(.tmp 14)]), none⟩, ⟨(some 16), (.iad 1 (.tmp 12) (.const (.int .i64 2))), none⟩, ⟨none, (.st1 (.tmp 16) (.tmp 15)), none⟩])
    (.seq (.reg [⟨(some 17), (.mv (.tmp 7)), none⟩, ⟨(some 18), (.slc 1 (.tmp 17) (some (.const (.int .i64 3))) none), none⟩, ⟨(some 19), (.mv (.tmp 1)), none⟩, ⟨(some 20), (.cpy 1 (.tmp 18) (.tmp 19)), none⟩])
    (.seq (.reg [⟨(some 21), (.ldn 3 (.tmp 6)), none⟩, ⟨(some 22), (.mv (.tmp 7)), none⟩, ⟨none, (.stn 3 (.tmp 4) (.tmp 21)), none⟩, ⟨(some 5), (.mv (.tmp 22)), none⟩]) .ret))))))⟩ := by kernel_rfl

/-- allotment/allotmentlaw12.awake -/
theorem tr75 : trF Try.prog pures Try.f75 = some
  ⟨46, [(.t 0)],
    (.seq (.reg [⟨(some 0), (.mv (.const (.bool false))), none⟩])
    (.seq (.reg [⟨(some 5), (.bld #[(.int .i64 0), (.int .i64 0), (.int .i64 0)] [(0, (1, (.const (.int .i64 1)))), (1, (1, (.const (.int .i64 1))))]), none⟩, ⟨(some 1), (.alc 57 (.agg #[(.int .i64 0), (.int .i64 0), (.int .i64 0)])), none⟩, ⟨none, (.stn 3 (.tmp 1) (.tmp 5)), none⟩])
    (.seq (.reg [⟨(some 6), (.ldn 3 (.tmp 1)), none⟩, ⟨(some 7), (.pcall 54 [(.tmp 6)]), none⟩, ⟨(some 8), (.mks 26 8 (.int .u64 0) (.tmp 7) (.tmp 7)), none⟩, ⟨(some 9), (.call 41 [(.tmp 8)]), none⟩, ⟨(some 2), (.mv (.tmp 9)), none⟩])
    (.seq (.reg [⟨(some 10), (.ldn 3 (.tmp 1)), none⟩, ⟨(some 11), (.call 76 [(.tmp 10), (.const (.int .i64 0)), (.const (.int .i64 0)), (.const (.int .i64 3))]), none⟩, ⟨(some 3), (.mv (.tmp 11)), none⟩])
    (.seq (.seq
    (.reg [⟨(some 12), (.mv (.tmp 2)), none⟩, ⟨(some 13), (.pnil false (.tmp 12)), none⟩, ⟨(some 14), (.mv (.tmp 13)), none⟩, ⟨(some 15), (.mv (.tmp 3)), (some (14, false))⟩, ⟨(some 16), (.pnil false (.tmp 15)), (some (14, false))⟩, ⟨(some 17), (.pick (.tmp 14) (.const (.bool true)) (.tmp 16)), none⟩])
    (.cond (.tmp 17)
    (.seq (.reg [⟨(some 0), (.mv (.const (.bool false))), none⟩]) .ret) .skip))
    (.seq (.seq
    (.reg [⟨(some 4), (.mv (.const (.int .i64 0))), none⟩])
    (.block 0
    (.loop (.seq
    (.seq (.reg [⟨(some 18), (.mv (.tmp 4)), none⟩, ⟨(some 19), (.cmp .lss (.tmp 18) (.const (.int .i64 18))), none⟩])
    (.cond (.tmp 19) .skip (.exit 0)))
    (.seq (.block 1
    (.reg [⟨(some 22), (.mv (.tmp 3)), none⟩, ⟨(some 23), (.mv (.tmp 2)), none⟩, ⟨(some 24), (.call 79 [(.tmp 22), (.tmp 23)]), none⟩]))
    (.reg [⟨(some 20), (.mv (.tmp 4)), none⟩, ⟨(some 21), (.ar .add (.tmp 20) (.const (.int .i64 1))), none⟩, ⟨(some 4), (.mv (.tmp 21)), none⟩]))))))
    (.seq (.reg [⟨(some 25), (.mv (.tmp 3)), none⟩, ⟨(some 26), (.call 78 [(.tmp 25)]), none⟩, ⟨(some 27), (.mv (.tmp 26)), none⟩, ⟨(some 28), (.mv (.tmp 2)), (some (27, true))⟩, ⟨(some 29), (.call 34 [(.tmp 28)]), (some (27, true))⟩, ⟨(some 30), (.cmp .eql (.tmp 29) (.const (.int .i64 18))), (some (27, true))⟩, ⟨(some 31), (.pick (.tmp 27) (.tmp 30) (.const (.bool false))), none⟩, ⟨(some 32), (.mv (.tmp 31)), none⟩, ⟨(some 33), (.mv (.tmp 2)), (some (32, true))⟩, ⟨(some 34), (.call 33 [(.tmp 33), (.const (.int .i64 1))]), (some (32, true))⟩, ⟨(some 35), (.bld #[(.int .i64 0), (.int .i64 0), (.int .i64 0)] [(0, (1, (.const (.int .i64 2)))), (1, (1, (.const (.int .i64 3))))]), (some (32, true))⟩, ⟨(some 36), (.pcall 59 [(.tmp 35)]), (some (32, true))⟩, ⟨(some 37), (.cmp .eql (.tmp 34) (.tmp 36)), (some (32, true))⟩, ⟨(some 38), (.pick (.tmp 32) (.tmp 37) (.const (.bool false))), none⟩, ⟨(some 39), (.mv (.tmp 38)), none⟩, ⟨(some 40), (.mv (.tmp 2)), (some (39, true))⟩, ⟨(some 41), (.call 33 [(.tmp 40), (.const (.int .i64 3))]), (some (39, true))⟩, ⟨(some 42), (.bld #[(.int .i64 0), (.int .i64 0)] [(0, (1, (.const (.int .i64 1)))), (1, (1, (.const (.int .i64 3))))]), (some (39, true))⟩, ⟨(some 43), (.pcall 69 [(.tmp 42)]), (some (39, true))⟩, ⟨(some 44), (.cmp .eql (.tmp 41) (.tmp 43)), (some (39, true))⟩, ⟨(some 45), (.pick (.tmp 39) (.tmp 44) (.const (.bool false))), none⟩, ⟨(some 0), (.mv (.tmp 45)), none⟩]) .ret)))))))⟩ := by kernel_rfl

/-- allotment/allotmentlaw8.awake -/
theorem tr81 : trF Try.prog pures Try.f81 = some
  ⟨62, [(.t 0)],
    (.seq (.reg [⟨(some 0), (.mv (.const (.bool false))), none⟩])
    (.seq (.reg [⟨(some 8), (.bld #[(.int .i64 0), (.int .i64 0), (.int .i64 0)] [(0, (1, (.const (.int .i64 1)))), (1, (1, (.const (.int .i64 1)))), (2, (1, (.const (.int .i64 1))))]), none⟩, ⟨(some 1), (.alc 57 (.agg #[(.int .i64 0), (.int .i64 0), (.int .i64 0)])), none⟩, ⟨none, (.stn 3 (.tmp 1) (.tmp 8)), none⟩])
    (.seq (.reg [⟨(some 9), (.ldn 3 (.tmp 1)), none⟩, ⟨(some 10), (.pcall 54 [(.tmp 9)]), none⟩, ⟨(some 11), (.mks 26 8 (.int .u64 0) (.tmp 10) (.tmp 10)), none⟩, ⟨(some 2), (.mv (.tmp 11)), none⟩])
    (.seq (.reg [⟨(some 12), (.mv (.tmp 2)), none⟩, ⟨(some 13), (.mv (.tmp 2)), none⟩, ⟨(some 14), (.len (.tmp 13)), none⟩, ⟨(some 15), (.ar .sub (.tmp 14) (.const (.int .i64 1))), none⟩, ⟨(some 16), (.bld #[(.int .i64 0), (.int .i64 0), (.int .i64 0)] [(1, (1, (.const (.int .i64 2))))]), none⟩, ⟨(some 17), (.pcall 95 [(.tmp 16)]), none⟩, ⟨(some 18), (.iad 1 (.tmp 12) (.tmp 15)), none⟩, ⟨none, (.st1 (.tmp 18) (.tmp 17)), none⟩])
    (.seq (.reg [⟨(some 19), (.mv (.tmp 2)), none⟩, ⟨(some 20), (.call 41 [(.tmp 19)]), none⟩, ⟨(some 3), (.mv (.tmp 20)), none⟩])
    (.seq (.reg [⟨(some 21), (.ldn 3 (.tmp 1)), none⟩, ⟨(some 22), (.call 84 [(.tmp 21), (.const (.int .i64 0)), (.const (.int .i64 0))]), none⟩, ⟨(some 4), (.mv (.tmp 22)), none⟩])
    (.seq (.seq
    (.reg [⟨(some 23), (.mv (.tmp 3)), none⟩, ⟨(some 24), (.pnil false (.tmp 23)), none⟩, ⟨(some 25), (.mv (.tmp 24)), none⟩, ⟨(some 26), (.mv (.tmp 4)), (some (25, false))⟩, ⟨(some 27), (.pnil false (.tmp 26)), (some (25, false))⟩, ⟨(some 28), (.pick (.tmp 25) (.const (.bool true)) (.tmp 27)), none⟩])
    (.cond (.tmp 28)
    (.seq (.reg [⟨(some 0), (.mv (.const (.bool false))), none⟩]) .ret) .skip))
    (.seq (.reg [⟨(some 29), (.mv (.tmp 4)), none⟩, ⟨(some 30), (.mv (.tmp 3)), none⟩, ⟨(some 31), (.call 87 [(.tmp 29), (.tmp 30)]), none⟩])
    (.seq (.reg [⟨(some 32), (.mv (.tmp 4)), none⟩, ⟨(some 33), (.mv (.tmp 3)), none⟩, ⟨(some 34), (.call 87 [(.tmp 32), (.tmp 33)]), none⟩])
    (.seq (.reg [⟨(some 36), (.mv (.tmp 4)), none⟩, ⟨(some 37), (.call 88 [(.tmp 36)]), none⟩, ⟨(some 35), (.mv (.tmp 37)), none⟩, ⟨(some 38), (.ext 0 (.tmp 35)), none⟩, ⟨(some 39), (.ext 1 (.tmp 35)), none⟩, ⟨(some 40), (.ext 2 (.tmp 35)), none⟩, ⟨(some 5), (.mv (.tmp 38)), none⟩, ⟨(some 6), (.mv (.tmp 39)), none⟩, ⟨(some 7), (.mv (.tmp 40)), none⟩])
    (.seq (.reg [⟨(some 41), (.mv (.tmp 4)), none⟩, ⟨(some 42), (.call 89 [(.tmp 41)]), none⟩, ⟨(some 43), (.mv (.tmp 42)), none⟩, ⟨(some 44), (.mv (.tmp 7)), (some (43, true))⟩, ⟨(some 45), (.pick (.tmp 43) (.tmp 44) (.const (.bool false))), none⟩, ⟨(some 46), (.mv (.tmp 45)), none⟩, ⟨(some 47), (.mv (.tmp 5)), (some (46, true))⟩, ⟨(some 48), (.cmp .eql (.tmp 47) (.const (.int .i64 0))), (some (46, true))⟩, ⟨(some 49), (.pick (.tmp 46) (.tmp 48) (.const (.bool false))), none⟩, ⟨(some 50), (.mv (.tmp 49)), none⟩, ⟨(some 51), (.mv (.tmp 6)), (some (50, true))⟩, ⟨(some 52), (.cmp .eql (.tmp 51) (.const (.int .i64 2))), (some (50, true))⟩, ⟨(some 53), (.pick (.tmp 50) (.tmp 52) (.const (.bool false))), none⟩, ⟨(some 54), (.mv (.tmp 53)), none⟩, ⟨(some 55), (.mv (.tmp 3)), (some (54, true))⟩, ⟨(some 56), (.mv (.tmp 2)), (some (54, true))⟩, ⟨(some 57), (.len (.tmp 56)), (some (54, true))⟩, ⟨(some 58), (.ar .sub (.tmp 57) (.const (.int .i64 1))), (some (54, true))⟩, ⟨(some 59), (.call 33 [(.tmp 55), (.tmp 58)]), (some (54, true))⟩, ⟨(some 60), (.cmp .eql (.tmp 59) (.const (.int .u64 0))), (some (54, true))⟩, ⟨(some 61), (.pick (.tmp 54) (.tmp 60) (.const (.bool false))), none⟩, ⟨(some 0), (.mv (.tmp 61)), none⟩]) .ret)))))))))))⟩ := by kernel_rfl

/-- allotment/allotmentlaw8.both -/
theorem tr82 : trF Try.prog pures Try.f82 = some
  ⟨222, [(.t 6)],
    (.seq (.reg [⟨(some 6), (.mv (.const (.bool false))), none⟩])
    (.seq (.seq
    (.reg [⟨(some 24), (.mv (.tmp 1)), none⟩, ⟨(some 25), (.len (.tmp 24)), none⟩, ⟨(some 26), (.cmp .gtr (.tmp 25) (.const (.int .i64 40))), none⟩, ⟨(some 27), (.mv (.tmp 26)), none⟩, ⟨(some 28), (.mv (.tmp 2)), (some (27, false))⟩, ⟨(some 29), (.len (.tmp 28)), (some (27, false))⟩, ⟨(some 30), (.cmp .gtr (.tmp 29) (.const (.int .i64 40))), (some (27, false))⟩, ⟨(some 31), (.pick (.tmp 27) (.const (.bool true)) (.tmp 30)), none⟩])
    (.cond (.tmp 31)
    (.seq (.reg [⟨(some 32), (.call 81 []), none⟩, ⟨(some 6), (.mv (.tmp 32)), none⟩]) .ret) .skip))
    (.seq (.reg [⟨(some 33), (.mv (.tmp 0)), none⟩, ⟨(some 34), (.bld #[(.int .i64 0), (.int .i64 0), (.int .i64 0)] [(0, (1, (.const (.int .i64 4)))), (1, (1, (.const (.int .i64 2)))), (2, (1, (.tmp 33)))]), none⟩, ⟨(some 7), (.alc 57 (.agg #[(.int .i64 0), (.int .i64 0), (.int .i64 0)])), none⟩, ⟨none, (.stn 3 (.tmp 7) (.tmp 34)), none⟩])
    (.seq (.reg [⟨(some 35), (.ldn 3 (.tmp 7)), none⟩, ⟨(some 36), (.pcall 54 [(.tmp 35)]), none⟩, ⟨(some 37), (.mks 26 8 (.int .u64 0) (.tmp 36) (.tmp 36)), none⟩, ⟨(some 38), (.call 41 [(.tmp 37)]), none⟩, ⟨(some 8), (.mv (.tmp 38)), none⟩])
    (.seq (.seq
    (.reg [⟨(some 39), (.mv (.tmp 8)), none⟩, ⟨(some 40), (.pnil false (.tmp 39)), none⟩, ⟨(some 41), (.mv (.tmp 40)), none⟩, ⟨(some 42), (.call 81 []), (some (41, false))⟩, ⟨(some 43), (.nt (.tmp 42)), (some (41, false))⟩, ⟨(some 44), (.pick (.tmp 41) (.const (.bool true)) (.tmp 43)), none⟩])
    (.cond (.tmp 44)
    (.seq (.reg [⟨(some 6), (.mv (.const (.bool false))), none⟩]) .ret) .skip))
    (.seq (.reg [⟨(some 45), (.mv (.tmp 0)), none⟩, ⟨(some 46), (.mks 3 8 (.int .i64 0) (.tmp 45) (.tmp 45)), none⟩, ⟨(some 9), (.mv (.tmp 46)), none⟩])
    (.seq (.seq
    (.reg [⟨(some 10), (.mv (.const (.int .i64 0))), none⟩])
    (.block 0
    (.loop (.seq
    (.seq (.reg [⟨(some 47), (.mv (.tmp 10)), none⟩, ⟨(some 48), (.mv (.tmp 1)), none⟩, ⟨(some 49), (.len (.tmp 48)), none⟩, ⟨(some 50), (.cmp .lss (.tmp 47) (.tmp 49)), none⟩])
    (.cond (.tmp 50) .skip (.exit 0)))
    (.seq (.block 1
    (.seq (.draw (.take ⟨(some 53), (.ldn 3 (.tmp 7)), none⟩ (.take ⟨(some 54), (.mv (.tmp 10)), none⟩ (.take ⟨(some 55), (.dv .rem (.tmp 54) (.const (.int .i64 4))), none⟩ (.take ⟨(some 56), (.mv (.tmp 1)), none⟩ (.take ⟨(some 57), (.mv (.tmp 10)), none⟩ (.take ⟨(some 58), (.iad 1 (.tmp 56) (.tmp 57)), none⟩ (.take ⟨(some 59), (.ld1 (.tmp 58)), none⟩ (.take ⟨(some 60), (.sh .shr (.tmp 59) (.const (.int .u64 2))), none⟩ (.take ⟨(some 61), (.cv .i64 (.tmp 60)), none⟩ (.take ⟨(some 62), (.dv .rem (.tmp 61) (.const (.int .i64 2))), none⟩ (.take ⟨(some 63), (.mv (.tmp 1)), none⟩ (.take ⟨(some 64), (.mv (.tmp 10)), none⟩ (.take ⟨(some 65), (.iad 1 (.tmp 63) (.tmp 64)), none⟩ (.take ⟨(some 66), (.ld1 (.tmp 65)), none⟩ (.take ⟨(some 67), (.cv .i64 (.tmp 66)), none⟩ (.take ⟨(some 68), (.dv .rem (.tmp 67) (.const (.int .i64 4))), none⟩ (.alt false ⟨(some 69), (.call 85 [(.tmp 53), (.const (.int .i64 1)), (.tmp 55), (.tmp 62), (.tmp 68)]), none⟩ (.take ⟨(some 11), (.mv (.tmp 69)), none⟩ .done) .stop))))))))))))))))))
    (.seq (.seq
    (.reg [⟨(some 12), (.mv (.const (.int .i64 0))), none⟩])
    (.block 2
    (.loop (.seq
    (.seq (.reg [⟨(some 70), (.mv (.tmp 12)), none⟩, ⟨(some 71), (.mv (.tmp 0)), none⟩, ⟨(some 72), (.ar .add (.tmp 71) (.const (.int .i64 1))), none⟩, ⟨(some 73), (.cmp .lss (.tmp 70) (.tmp 72)), none⟩])
    (.cond (.tmp 73) .skip (.exit 2)))
    (.seq (.block 3
    (.reg [⟨(some 76), (.mv (.tmp 11)), none⟩, ⟨(some 77), (.mv (.tmp 8)), none⟩, ⟨(some 78), (.call 86 [(.tmp 76), (.tmp 77)]), none⟩]))
    (.reg [⟨(some 74), (.mv (.tmp 12)), none⟩, ⟨(some 75), (.ar .add (.tmp 74) (.const (.int .i64 1))), none⟩, ⟨(some 12), (.mv (.tmp 75)), none⟩]))))))
    (.seq (.reg [⟨(some 13), (.mv (.const (.int .i64 (-1)))), none⟩])
    (.seq (.seq
    (.reg [⟨(some 79), (.mv (.tmp 0)), none⟩, ⟨(some 80), (.ar .sub (.tmp 79) (.const (.int .i64 1))), none⟩, ⟨(some 14), (.mv (.tmp 80)), none⟩])
    (.block 4
    (.loop (.seq
    (.seq (.reg [⟨(some 81), (.mv (.tmp 14)), none⟩, ⟨(some 82), (.cmp .geq (.tmp 81) (.const (.int .i64 0))), none⟩])
    (.cond (.tmp 82) .skip (.exit 4)))
    (.seq (.block 5
    (.seq (.reg [⟨(some 85), (.mv (.tmp 9)), none⟩, ⟨(some 86), (.mv (.tmp 14)), none⟩, ⟨(some 87), (.iad 1 (.tmp 85) (.tmp 86)), none⟩, ⟨(some 88), (.ld1 (.tmp 87)), none⟩, ⟨(some 89), (.cmp .eql (.tmp 88) (.const (.int .i64 0))), none⟩])
    (.cond (.tmp 89)
    (.reg [⟨(some 90), (.mv (.tmp 14)), none⟩, ⟨(some 13), (.mv (.tmp 90)), none⟩]) .skip)))
    (.reg [⟨(some 83), (.mv (.tmp 14)), none⟩, ⟨(some 84), (.ar .sub (.tmp 83) (.const (.int .i64 1))), none⟩, ⟨(some 14), (.mv (.tmp 84)), none⟩]))))))
    (.seq (.seq
    (.reg [⟨(some 91), (.mv (.tmp 11)), none⟩, ⟨(some 92), (.call 90 [(.tmp 91)]), none⟩, ⟨(some 93), (.nt (.tmp 92)), none⟩, ⟨(some 94), (.mv (.tmp 93)), none⟩, ⟨(some 95), (.mv (.tmp 11)), (some (94, false))⟩, ⟨(some 96), (.call 91 [(.tmp 95)]), (some (94, false))⟩, ⟨(some 97), (.mv (.tmp 13)), (some (94, false))⟩, ⟨(some 98), (.cmp .geq (.tmp 97) (.const (.int .i64 0))), (some (94, false))⟩, ⟨(some 99), (.beq true (.tmp 96) (.tmp 98)), (some (94, false))⟩, ⟨(some 100), (.pick (.tmp 94) (.const (.bool true)) (.tmp 99)), none⟩])
    (.cond (.tmp 100)
    (.seq (.reg [⟨(some 6), (.mv (.const (.bool false))), none⟩]) .ret) .skip))
    (.seq (.reg [⟨(some 101), (.mv (.tmp 13)), none⟩, ⟨(some 102), (.cmp .geq (.tmp 101) (.const (.int .i64 0))), none⟩])
    (.cond (.tmp 102)
    (.draw (.take ⟨(some 103), (.mv (.tmp 9)), none⟩ (.take ⟨(some 104), (.mv (.tmp 13)), none⟩ (.take ⟨(some 105), (.mv (.tmp 10)), none⟩ (.take ⟨(some 106), (.dv .rem (.tmp 105) (.const (.int .i64 4))), none⟩ (.take ⟨(some 107), (.ar .mul (.tmp 106) (.const (.int .i64 2))), none⟩ (.take ⟨(some 108), (.mv (.tmp 1)), none⟩ (.take ⟨(some 109), (.mv (.tmp 10)), none⟩ (.take ⟨(some 110), (.iad 1 (.tmp 108) (.tmp 109)), none⟩ (.take ⟨(some 111), (.ld1 (.tmp 110)), none⟩ (.take ⟨(some 112), (.sh .shr (.tmp 111) (.const (.int .u64 2))), none⟩ (.take ⟨(some 113), (.cv .i64 (.tmp 112)), none⟩ (.take ⟨(some 114), (.dv .rem (.tmp 113) (.const (.int .i64 2))), none⟩ (.take ⟨(some 115), (.ar .add (.tmp 107) (.tmp 114)), none⟩ (.take ⟨(some 116), (.ar .mul (.tmp 115) (.const (.int .i64 4))), none⟩ (.take ⟨(some 117), (.ar .add (.const (.int .i64 1)) (.tmp 116)), none⟩ (.take ⟨(some 118), (.mv (.tmp 1)), none⟩ (.take ⟨(some 119), (.mv (.tmp 10)), none⟩ (.take ⟨(some 120), (.iad 1 (.tmp 118) (.tmp 119)), none⟩ (.take ⟨(some 121), (.ld1 (.tmp 120)), none⟩ (.take ⟨(some 122), (.cv .i64 (.tmp 121)), none⟩ (.take ⟨(some 123), (.dv .rem (.tmp 122) (.const (.int .i64 4))), none⟩ (.take ⟨(some 124), (.ar .add (.tmp 117) (.tmp 123)), none⟩ (.take ⟨(some 125), (.iad 1 (.tmp 103) (.tmp 104)), none⟩ (.alt true ⟨none, (.st1 (.tmp 125) (.tmp 124)), none⟩ .done .stop))))))))))))))))))))))))) .skip))))))))
    (.reg [⟨(some 51), (.mv (.tmp 10)), none⟩, ⟨(some 52), (.ar .add (.tmp 51) (.const (.int .i64 1))), none⟩, ⟨(some 10), (.mv (.tmp 52)), none⟩]))))))
    (.seq (.seq
    (.reg [⟨(some 15), (.mv (.const (.int .i64 0))), none⟩])
    (.block 6
    (.loop (.seq
    (.seq (.reg [⟨(some 126), (.mv (.tmp 15)), none⟩, ⟨(some 127), (.mv (.tmp 2)), none⟩, ⟨(some 128), (.len (.tmp 127)), none⟩, ⟨(some 129), (.cmp .lss (.tmp 126) (.tmp 128)), none⟩])
    (.cond (.tmp 129) .skip (.exit 6)))
    (.seq (.block 7
    (.seq (.draw (.take ⟨(some 132), (.ldn 3 (.tmp 7)), none⟩ (.take ⟨(some 133), (.mv (.tmp 2)), none⟩ (.take ⟨(some 134), (.mv (.tmp 15)), none⟩ (.take ⟨(some 135), (.iad 1 (.tmp 133) (.tmp 134)), none⟩ (.take ⟨(some 136), (.ld1 (.tmp 135)), none⟩ (.take ⟨(some 137), (.cv .i64 (.tmp 136)), none⟩ (.take ⟨(some 138), (.dv .rem (.tmp 137) (.const (.int .i64 4))), none⟩ (.alt false ⟨(some 139), (.call 84 [(.tmp 132), (.const (.int .i64 1)), (.tmp 138)]), none⟩ (.take ⟨(some 16), (.mv (.tmp 139)), none⟩ .done) .stop)))))))))
    (.seq (.seq
    (.reg [⟨(some 17), (.mv (.const (.int .i64 0))), none⟩])
    (.block 8
    (.loop (.seq
    (.seq (.reg [⟨(some 140), (.mv (.tmp 17)), none⟩, ⟨(some 141), (.mv (.tmp 0)), none⟩, ⟨(some 142), (.ar .add (.tmp 141) (.const (.int .i64 1))), none⟩, ⟨(some 143), (.cmp .lss (.tmp 140) (.tmp 142)), none⟩])
    (.cond (.tmp 143) .skip (.exit 8)))
    (.seq (.block 9
    (.reg [⟨(some 146), (.mv (.tmp 16)), none⟩, ⟨(some 147), (.mv (.tmp 8)), none⟩, ⟨(some 148), (.call 87 [(.tmp 146), (.tmp 147)]), none⟩]))
    (.reg [⟨(some 144), (.mv (.tmp 17)), none⟩, ⟨(some 145), (.ar .add (.tmp 144) (.const (.int .i64 1))), none⟩, ⟨(some 17), (.mv (.tmp 145)), none⟩]))))))
    (.seq (.reg [⟨(some 18), (.mv (.const (.int .i64 (-1)))), none⟩])
    (.seq (.seq
    (.reg [⟨(some 149), (.mv (.tmp 0)), none⟩, ⟨(some 150), (.ar .sub (.tmp 149) (.const (.int .i64 1))), none⟩, ⟨(some 19), (.mv (.tmp 150)), none⟩])
    (.block 10
    (.loop (.seq
    (.seq (.reg [⟨(some 151), (.mv (.tmp 19)), none⟩, ⟨(some 152), (.cmp .geq (.tmp 151) (.const (.int .i64 0))), none⟩])
    (.cond (.tmp 152) .skip (.exit 10)))
    (.seq (.block 11
    (.seq (.reg [⟨(some 155), (.mv (.tmp 9)), none⟩, ⟨(some 156), (.mv (.tmp 19)), none⟩, ⟨(some 157), (.iad 1 (.tmp 155) (.tmp 156)), none⟩, ⟨(some 158), (.ld1 (.tmp 157)), none⟩, ⟨(some 159), (.cmp .gtr (.tmp 158) (.const (.int .i64 0))), none⟩, ⟨(some 160), (.mv (.tmp 159)), none⟩, ⟨(some 161), (.mv (.tmp 9)), (some (160, true))⟩, ⟨(some 162), (.mv (.tmp 19)), (some (160, true))⟩, ⟨(some 163), (.iad 1 (.tmp 161) (.tmp 162)), (some (160, true))⟩, ⟨(some 164), (.ld1 (.tmp 163)), (some (160, true))⟩, ⟨(some 165), (.ar .sub (.tmp 164) (.const (.int .i64 1))), (some (160, true))⟩, ⟨(some 166), (.dv .rem (.tmp 165) (.const (.int .i64 4))), (some (160, true))⟩, ⟨(some 167), (.mv (.tmp 2)), (some (160, true))⟩, ⟨(some 168), (.mv (.tmp 15)), (some (160, true))⟩, ⟨(some 169), (.iad 1 (.tmp 167) (.tmp 168)), (some (160, true))⟩, ⟨(some 170), (.ld1 (.tmp 169)), (some (160, true))⟩, ⟨(some 171), (.cv .i64 (.tmp 170)), (some (160, true))⟩, ⟨(some 172), (.dv .rem (.tmp 171) (.const (.int .i64 4))), (some (160, true))⟩, ⟨(some 173), (.cmp .eql (.tmp 166) (.tmp 172)), (some (160, true))⟩, ⟨(some 174), (.pick (.tmp 160) (.tmp 173) (.const (.bool false))), none⟩])
    (.cond (.tmp 174)
    (.reg [⟨(some 175), (.mv (.tmp 19)), none⟩, ⟨(some 18), (.mv (.tmp 175)), none⟩]) .skip)))
    (.reg [⟨(some 153), (.mv (.tmp 19)), none⟩, ⟨(some 154), (.ar .sub (.tmp 153) (.const (.int .i64 1))), none⟩, ⟨(some 19), (.mv (.tmp 154)), none⟩]))))))
    (.seq (.reg [⟨(some 177), (.mv (.tmp 16)), none⟩, ⟨(some 178), (.call 88 [(.tmp 177)]), none⟩, ⟨(some 176), (.mv (.tmp 178)), none⟩, ⟨(some 179), (.ext 0 (.tmp 176)), none⟩, ⟨(some 180), (.ext 1 (.tmp 176)), none⟩, ⟨(some 181), (.ext 2 (.tmp 176)), none⟩, ⟨(some 20), (.mv (.tmp 179)), none⟩, ⟨(some 21), (.mv (.tmp 180)), none⟩, ⟨(some 22), (.mv (.tmp 181)), none⟩])
    (.seq (.seq
    (.reg [⟨(some 182), (.mv (.tmp 16)), none⟩, ⟨(some 183), (.call 89 [(.tmp 182)]), none⟩, ⟨(some 184), (.nt (.tmp 183)), none⟩, ⟨(some 185), (.mv (.tmp 184)), none⟩, ⟨(some 186), (.mv (.tmp 22)), (some (185, false))⟩, ⟨(some 187), (.mv (.tmp 18)), (some (185, false))⟩, ⟨(some 188), (.cmp .geq (.tmp 187) (.const (.int .i64 0))), (some (185, false))⟩, ⟨(some 189), (.beq true (.tmp 186) (.tmp 188)), (some (185, false))⟩, ⟨(some 190), (.pick (.tmp 185) (.const (.bool true)) (.tmp 189)), none⟩, ⟨(some 191), (.mv (.tmp 190)), none⟩, ⟨(some 192), (.mv (.tmp 22)), (some (191, false))⟩, ⟨(some 193), (.mv (.tmp 192)), (some (191, false))⟩, ⟨(some 194), (.mv (.tmp 9)), (some (193, true))⟩, ⟨(some 195), (.mv (.tmp 18)), (some (193, true))⟩, ⟨(some 196), (.iad 1 (.tmp 194) (.tmp 195)), (some (193, true))⟩, ⟨(some 197), (.ld1 (.tmp 196)), (some (193, true))⟩, ⟨(some 198), (.ar .sub (.tmp 197) (.const (.int .i64 1))), (some (193, true))⟩, ⟨(some 199), (.dv .quo (.tmp 198) (.const (.int .i64 4))), (some (193, true))⟩, ⟨(some 200), (.mv (.tmp 20)), (some (193, true))⟩, ⟨(some 201), (.ar .mul (.tmp 200) (.const (.int .i64 2))), (some (193, true))⟩, ⟨(some 202), (.mv (.tmp 21)), (some (193, true))⟩, ⟨(some 203), (.ar .add (.tmp 201) (.tmp 202)), (some (193, true))⟩, ⟨(some 204), (.cmp .neq (.tmp 199) (.tmp 203)), (some (193, true))⟩, ⟨(some 205), (.pick (.tmp 193) (.tmp 204) (.const (.bool false))), (some (191, false))⟩, ⟨(some 206), (.pick (.tmp 191) (.const (.bool true)) (.tmp 205)), none⟩])
    (.cond (.tmp 206)
    (.seq (.reg [⟨(some 6), (.mv (.const (.bool false))), none⟩]) .ret) .skip))
    (.seq (.reg [⟨(some 207), (.mv (.tmp 22)), none⟩])
    (.cond (.tmp 207)
    (.reg [⟨(some 208), (.mv (.tmp 9)), none⟩, ⟨(some 209), (.mv (.tmp 18)), none⟩, ⟨(some 210), (.iad 1 (.tmp 208) (.tmp 209)), none⟩, ⟨none, (.st1 (.tmp 210) (.const (.int .i64 0))), none⟩]) .skip)))))))))
    (.reg [⟨(some 130), (.mv (.tmp 15)), none⟩, ⟨(some 131), (.ar .add (.tmp 130) (.const (.int .i64 1))), none⟩, ⟨(some 15), (.mv (.tmp 131)), none⟩]))))))
    (.seq (.seq
    (.reg [⟨(some 23), (.mv (.const (.int .i64 0))), none⟩])
    (.block 12
    (.loop (.seq
    (.seq (.reg [⟨(some 211), (.mv (.tmp 23)), none⟩, ⟨(some 212), (.mv (.tmp 0)), none⟩, ⟨(some 213), (.cmp .lss (.tmp 211) (.tmp 212)), none⟩])
    (.cond (.tmp 213) .skip (.exit 12)))
    (.seq (.block 13
    (.seq (.reg [⟨(some 216), (.mv (.tmp 8)), none⟩, ⟨(some 217), (.ldn 3 (.tmp 7)), none⟩, ⟨(some 218), (.mv (.tmp 23)), none⟩, ⟨(some 219), (.pcall 83 [(.tmp 217), (.const (.int .i64 0)), (.tmp 218)]), none⟩, ⟨(some 220), (.call 33 [(.tmp 216), (.tmp 219)]), none⟩, ⟨(some 221), (.cmp .neq (.tmp 220) (.const (.int .u64 0))), none⟩])
    (.cond (.tmp 221)
    (.seq (.reg [⟨(some 6), (.mv (.const (.bool false))), none⟩]) .ret) .skip)))
    (.reg [⟨(some 214), (.mv (.tmp 23)), none⟩, ⟨(some 215), (.ar .add (.tmp 214) (.const (.int .i64 1))), none⟩, ⟨(some 23), (.mv (.tmp 215)), none⟩]))))))
    (.seq (.reg [⟨(some 6), (.mv (.const (.bool true))), none⟩]) .ret))))))))))⟩ := by kernel_rfl

/-- allotment/allotmentlaw9.awake -/
theorem tr98 : trF Try.prog pures Try.f98 = some
  ⟨59, [(.t 0)],
    (.seq (.reg [⟨(some 0), (.mv (.const (.bool false))), none⟩])
    (.seq (.reg [⟨(some 10), (.bld #[(.int .i64 0), (.int .i64 0)] [(0, (1, (.const (.int .i64 3)))), (1, (1, (.const (.int .i64 3))))]), none⟩, ⟨(some 11), (.pcall 69 [(.tmp 10)]), none⟩, ⟨(some 12), (.bld #[(.int .i64 0), (.int .i64 0)] [(0, (1, (.const (.int .i64 1)))), (1, (1, (.const (.int .i64 3))))]), none⟩, ⟨(some 13), (.pcall 69 [(.tmp 12)]), none⟩, ⟨(some 14), (.bsl 26 #[(.int .u64 0), (.int .u64 0)] 2 1 [(0, (.tmp 11)), (1, (.tmp 13))]), none⟩, ⟨(some 15), (.call 70 [(.const (.int .i64 3)), (.tmp 14)]), none⟩, ⟨(some 9), (.mv (.tmp 15)), none⟩, ⟨(some 16), (.ext 0 (.tmp 9)), none⟩, ⟨(some 17), (.ext 1 (.tmp 9)), none⟩, ⟨(some 1), (.alc 57 (.agg #[(.int .i64 0), (.int .i64 0), (.int .i64 0)])), none⟩, ⟨none, (.stn 3 (.tmp 1) (.tmp 16)), none⟩, ⟨(some 2), (.mv (.tmp 17)), none⟩])
    (.seq (.reg [⟨(some 18), (.mv (.tmp 2)), none⟩, ⟨(some 19), (.call 41 [(.tmp 18)]), none⟩, ⟨(some 3), (.mv (.tmp 19)), none⟩])
    (.seq (.reg [⟨(some 20), (.ldn 3 (.tmp 1)), none⟩, ⟨(some 21), (.call 99 [(.tmp 20), (.const (.int .i64 1)), (.const (.int .i64 3)), (.const (.int .i64 0))]), none⟩, ⟨(some 4), (.mv (.tmp 21)), none⟩])
    (.seq (.seq
    (.reg [⟨(some 22), (.mv (.tmp 3)), none⟩, ⟨(some 23), (.pnil false (.tmp 22)), none⟩, ⟨(some 24), (.mv (.tmp 23)), none⟩, ⟨(some 25), (.mv (.tmp 4)), (some (24, false))⟩, ⟨(some 26), (.pnil false (.tmp 25)), (some (24, false))⟩, ⟨(some 27), (.pick (.tmp 24) (.const (.bool true)) (.tmp 26)), none⟩])
    (.cond (.tmp 27)
    (.seq (.reg [⟨(some 0), (.mv (.const (.bool false))), none⟩]) .ret) .skip))
    (.seq (.seq
    (.reg [⟨(some 5), (.mv (.const (.int .i64 0))), none⟩])
    (.block 0
    (.loop (.seq
    (.seq (.reg [⟨(some 28), (.mv (.tmp 5)), none⟩, ⟨(some 29), (.cmp .lss (.tmp 28) (.const (.int .i64 4))), none⟩])
    (.cond (.tmp 29) .skip (.exit 0)))
    (.seq (.block 1
    (.reg [⟨(some 32), (.mv (.tmp 4)), none⟩, ⟨(some 33), (.mv (.tmp 3)), none⟩, ⟨(some 34), (.call 100 [(.tmp 32), (.tmp 33)]), none⟩]))
    (.reg [⟨(some 30), (.mv (.tmp 5)), none⟩, ⟨(some 31), (.ar .add (.tmp 30) (.const (.int .i64 1))), none⟩, ⟨(some 5), (.mv (.tmp 31)), none⟩]))))))
    (.seq (.reg [⟨(some 36), (.mv (.tmp 4)), none⟩, ⟨(some 37), (.call 101 [(.tmp 36)]), none⟩, ⟨(some 35), (.mv (.tmp 37)), none⟩, ⟨(some 38), (.ext 0 (.tmp 35)), none⟩, ⟨(some 39), (.ext 1 (.tmp 35)), none⟩, ⟨(some 40), (.ext 2 (.tmp 35)), none⟩, ⟨(some 6), (.mv (.tmp 38)), none⟩, ⟨(some 7), (.mv (.tmp 39)), none⟩, ⟨(some 8), (.mv (.tmp 40)), none⟩])
    (.seq (.reg [⟨(some 41), (.mv (.tmp 4)), none⟩, ⟨(some 42), (.call 102 [(.tmp 41)]), none⟩, ⟨(some 43), (.mv (.tmp 42)), none⟩, ⟨(some 44), (.mv (.tmp 8)), (some (43, true))⟩, ⟨(some 45), (.pick (.tmp 43) (.tmp 44) (.const (.bool false))), none⟩, ⟨(some 46), (.mv (.tmp 45)), none⟩, ⟨(some 47), (.mv (.tmp 6)), (some (46, true))⟩, ⟨(some 48), (.cmp .eql (.tmp 47) (.const (.int .i64 0))), (some (46, true))⟩, ⟨(some 49), (.pick (.tmp 46) (.tmp 48) (.const (.bool false))), none⟩, ⟨(some 50), (.mv (.tmp 49)), none⟩, ⟨(some 51), (.mv (.tmp 7)), (some (50, true))⟩, ⟨(some 52), (.cmp .eql (.tmp 51) (.const (.int .i64 1))), (some (50, true))⟩, ⟨(some 53), (.pick (.tmp 50) (.tmp 52) (.const (.bool false))), none⟩, ⟨(some 54), (.mv (.tmp 53)), none⟩, ⟨(some 55), (.mv (.tmp 3)), (some (54, true))⟩, ⟨(some 56), (.call 34 [(.tmp 55)]), (some (54, true))⟩, ⟨(some 57), (.cmp .eql (.tmp 56) (.const (.int .i64 4))), (some (54, true))⟩, ⟨(some 58), (.pick (.tmp 54) (.tmp 57) (.const (.bool false))), none⟩, ⟨(some 0), (.mv (.tmp 58)), none⟩]) .ret))))))))⟩ := by kernel_rfl

/-- allotment/allotmentlaw9.many -/
theorem tr103 : trF Try.prog pures Try.f103 = some
  ⟨170, [(.t 8)],
    (.seq (.reg [⟨(some 8), (.mv (.const (.bool false))), none⟩])
    (.seq (.reg [⟨(some 25), (.mv (.tmp 2)), none⟩, ⟨(some 26), (.bld #[(.int .i64 0), (.int .i64 0), (.int .i64 0)] [(0, (1, (.const (.int .i64 1)))), (1, (1, (.tmp 25)))]), none⟩, ⟨(some 9), (.alc 57 (.agg #[(.int .i64 0), (.int .i64 0), (.int .i64 0)])), none⟩, ⟨none, (.stn 3 (.tmp 9) (.tmp 26)), none⟩])
    (.seq (.reg [⟨(some 27), (.ldn 3 (.tmp 9)), none⟩, ⟨(some 28), (.pcall 54 [(.tmp 27)]), none⟩, ⟨(some 29), (.mks 26 8 (.int .u64 0) (.tmp 28) (.tmp 28)), none⟩, ⟨(some 10), (.mv (.tmp 29)), none⟩])
    (.seq (.reg [⟨(some 30), (.mv (.tmp 10)), none⟩, ⟨(some 31), (.mv (.tmp 2)), none⟩, ⟨(some 32), (.mv (.tmp 0)), none⟩, ⟨(some 33), (.bld #[(.int .i64 0), (.int .i64 0), (.int .i64 0)] [(0, (1, (.const (.int .i64 2)))), (1, (1, (.tmp 32)))]), none⟩, ⟨(some 34), (.pcall 59 [(.tmp 33)]), none⟩, ⟨(some 35), (.iad 1 (.tmp 30) (.tmp 31)), none⟩, ⟨none, (.st1 (.tmp 35) (.tmp 34)), none⟩])
    (.seq (.reg [⟨(some 11), (.mv (.const (.int .i64 0))), none⟩])
    (.seq (.seq
    (.reg [⟨(some 12), (.mv (.const (.int .i64 0))), none⟩])
    (.block 0
    (.loop (.seq
    (.seq (.reg [⟨(some 36), (.mv (.tmp 12)), none⟩, ⟨(some 37), (.mv (.tmp 0)), none⟩, ⟨(some 38), (.pcall 67 [(.tmp 37)]), none⟩, ⟨(some 39), (.cmp .lss (.tmp 36) (.tmp 38)), none⟩])
    (.cond (.tmp 39) .skip (.exit 0)))
    (.seq (.block 1
    (.seq (.reg [⟨(some 42), (.mv (.tmp 0)), none⟩, ⟨(some 43), (.bld #[(.int .i64 0), (.int .i64 0)] [(0, (1, (.const (.int .i64 3)))), (1, (1, (.tmp 42)))]), none⟩, ⟨(some 13), (.alc 87 (.agg #[(.int .i64 0), (.int .i64 0)])), none⟩, ⟨none, (.stn 2 (.tmp 13) (.tmp 43)), none⟩])
    (.seq (.seq
    (.reg [⟨(some 44), (.mv (.tmp 1)), none⟩, ⟨(some 45), (.mv (.tmp 12)), none⟩, ⟨(some 46), (.cv .u64 (.tmp 45)), none⟩, ⟨(some 47), (.sh .shr (.tmp 44) (.tmp 46)), none⟩, ⟨(some 48), (.bt .and (.tmp 47) (.const (.int .u16 1))), none⟩, ⟨(some 49), (.cmp .eql (.tmp 48) (.const (.int .u16 1))), none⟩])
    (.cond (.tmp 49)
    (.seq (.reg [⟨(some 50), (.fad 0 (.tmp 13)), none⟩, ⟨none, (.st1 (.tmp 50) (.const (.int .i64 1))), none⟩])
    (.reg [⟨(some 51), (.mv (.tmp 11)), none⟩, ⟨(some 52), (.ar .add (.tmp 51) (.const (.int .i64 1))), none⟩, ⟨(some 11), (.mv (.tmp 52)), none⟩])) .skip))
    (.reg [⟨(some 53), (.mv (.tmp 10)), none⟩, ⟨(some 54), (.mv (.tmp 2)), none⟩, ⟨(some 55), (.ar .add (.tmp 54) (.const (.int .i64 1))), none⟩, ⟨(some 56), (.mv (.tmp 12)), none⟩, ⟨(some 57), (.ar .add (.tmp 55) (.tmp 56)), none⟩, ⟨(some 58), (.ldn 2 (.tmp 13)), none⟩, ⟨(some 59), (.pcall 69 [(.tmp 58)]), none⟩, ⟨(some 60), (.iad 1 (.tmp 53) (.tmp 57)), none⟩, ⟨none, (.st1 (.tmp 60) (.tmp 59)), none⟩]))))
    (.reg [⟨(some 40), (.mv (.tmp 12)), none⟩, ⟨(some 41), (.ar .add (.tmp 40) (.const (.int .i64 1))), none⟩, ⟨(some 12), (.mv (.tmp 41)), none⟩]))))))
    (.seq (.reg [⟨(some 61), (.mv (.tmp 10)), none⟩, ⟨(some 62), (.call 41 [(.tmp 61)]), none⟩, ⟨(some 14), (.mv (.tmp 62)), none⟩])
    (.seq (.seq
    (.reg [⟨(some 63), (.mv (.tmp 14)), none⟩, ⟨(some 64), (.pnil false (.tmp 63)), none⟩, ⟨(some 65), (.mv (.tmp 64)), none⟩, ⟨(some 66), (.call 98 []), (some (65, false))⟩, ⟨(some 67), (.nt (.tmp 66)), (some (65, false))⟩, ⟨(some 68), (.pick (.tmp 65) (.const (.bool true)) (.tmp 67)), none⟩])
    (.cond (.tmp 68)
    (.seq (.reg [⟨(some 8), (.mv (.const (.bool false))), none⟩]) .ret) .skip))
    (.seq (.reg [⟨(some 15), (.mv (.const (.slice none 0 0))), none⟩])
    (.seq (.seq
    (.reg [⟨(some 16), (.mv (.const (.int .i64 0))), none⟩])
    (.block 2
    (.loop (.seq
    (.seq (.reg [⟨(some 69), (.mv (.tmp 16)), none⟩, ⟨(some 70), (.mv (.tmp 2)), none⟩, ⟨(some 71), (.cmp .lss (.tmp 69) (.tmp 70)), none⟩])
    (.cond (.tmp 71) .skip (.exit 2)))
    (.seq (.block 3
    (.reg [⟨(some 74), (.mv (.tmp 15)), none⟩, ⟨(some 75), (.ldn 3 (.tmp 9)), none⟩, ⟨(some 76), (.mv (.tmp 16)), none⟩, ⟨(some 77), (.mv (.tmp 0)), none⟩, ⟨(some 78), (.call 99 [(.tmp 75), (.tmp 76), (.tmp 77), (.const (.int .i64 0))]), none⟩, ⟨(some 79), (.bsl 125 #[(.pointer none)] 1 1 [(0, (.tmp 78))]), none⟩, ⟨(some 80), (.app 125 1 8 #[(.pointer none)] (.tmp 74) (.tmp 79)), none⟩, ⟨(some 15), (.mv (.tmp 80)), none⟩]))
    (.reg [⟨(some 72), (.mv (.tmp 16)), none⟩, ⟨(some 73), (.ar .add (.tmp 72) (.const (.int .i64 1))), none⟩, ⟨(some 16), (.mv (.tmp 73)), none⟩]))))))
    (.seq (.seq
    (.reg [⟨(some 17), (.mv (.const (.int .i64 0))), none⟩])
    (.block 4
    (.loop (.seq
    (.seq (.reg [⟨(some 81), (.mv (.tmp 17)), none⟩, ⟨(some 82), (.mv (.tmp 3)), none⟩, ⟨(some 83), (.len (.tmp 82)), none⟩, ⟨(some 84), (.cmp .lss (.tmp 81) (.tmp 83)), none⟩, ⟨(some 85), (.mv (.tmp 84)), none⟩, ⟨(some 86), (.mv (.tmp 17)), (some (85, true))⟩, ⟨(some 87), (.cmp .lss (.tmp 86) (.const (.int .i64 500))), (some (85, true))⟩, ⟨(some 88), (.pick (.tmp 85) (.tmp 87) (.const (.bool false))), none⟩])
    (.cond (.tmp 88) .skip (.exit 4)))
    (.seq (.block 5
    (.reg [⟨(some 91), (.mv (.tmp 15)), none⟩, ⟨(some 92), (.mv (.tmp 3)), none⟩, ⟨(some 93), (.mv (.tmp 17)), none⟩, ⟨(some 94), (.iad 1 (.tmp 92) (.tmp 93)), none⟩, ⟨(some 95), (.ld1 (.tmp 94)), none⟩, ⟨(some 96), (.cv .i64 (.tmp 95)), none⟩, ⟨(some 97), (.mv (.tmp 2)), none⟩, ⟨(some 98), (.dv .rem (.tmp 96) (.tmp 97)), none⟩, ⟨(some 99), (.iad 1 (.tmp 91) (.tmp 98)), none⟩, ⟨(some 100), (.ld1 (.tmp 99)), none⟩, ⟨(some 101), (.mv (.tmp 14)), none⟩, ⟨(some 102), (.call 100 [(.tmp 100), (.tmp 101)]), none⟩]))
    (.reg [⟨(some 89), (.mv (.tmp 17)), none⟩, ⟨(some 90), (.ar .add (.tmp 89) (.const (.int .i64 1))), none⟩, ⟨(some 17), (.mv (.tmp 90)), none⟩]))))))
    (.seq (.reg [⟨(some 103), (.mks 4 1 (.bool false) (.const (.int .i64 16)) (.const (.int .i64 16))), none⟩, ⟨(some 18), (.mv (.tmp 103)), none⟩])
    (.seq (.reg [⟨(some 19), (.mv (.const (.int .i64 0))), none⟩])
    (.seq (.seq
    (.reg [⟨(some 20), (.mv (.const (.int .i64 0))), none⟩])
    (.block 6
    (.loop (.seq
    (.seq (.reg [⟨(some 104), (.mv (.tmp 20)), none⟩, ⟨(some 105), (.mv (.tmp 2)), none⟩, ⟨(some 106), (.cmp .lss (.tmp 104) (.tmp 105)), none⟩])
    (.cond (.tmp 106) .skip (.exit 6)))
    (.seq (.block 7
    (.seq (.seq
    (.reg [⟨(some 21), (.mv (.const (.int .i64 0))), none⟩])
    (.block 8
    (.loop (.seq
    (.seq (.reg [⟨(some 109), (.mv (.tmp 21)), none⟩, ⟨(some 110), (.cmp .lss (.tmp 109) (.const (.int .i64 40))), none⟩])
    (.cond (.tmp 110) .skip (.exit 8)))
    (.seq (.block 9
    (.reg [⟨(some 113), (.mv (.tmp 15)), none⟩, ⟨(some 114), (.mv (.tmp 20)), none⟩, ⟨(some 115), (.iad 1 (.tmp 113) (.tmp 114)), none⟩, ⟨(some 116), (.ld1 (.tmp 115)), none⟩, ⟨(some 117), (.mv (.tmp 14)), none⟩, ⟨(some 118), (.call 100 [(.tmp 116), (.tmp 117)]), none⟩]))
    (.reg [⟨(some 111), (.mv (.tmp 21)), none⟩, ⟨(some 112), (.ar .add (.tmp 111) (.const (.int .i64 1))), none⟩, ⟨(some 21), (.mv (.tmp 112)), none⟩]))))))
    (.seq (.reg [⟨(some 120), (.mv (.tmp 15)), none⟩, ⟨(some 121), (.mv (.tmp 20)), none⟩, ⟨(some 122), (.iad 1 (.tmp 120) (.tmp 121)), none⟩, ⟨(some 123), (.ld1 (.tmp 122)), none⟩, ⟨(some 124), (.call 101 [(.tmp 123)]), none⟩, ⟨(some 119), (.mv (.tmp 124)), none⟩, ⟨(some 125), (.ext 0 (.tmp 119)), none⟩, ⟨(some 126), (.ext 1 (.tmp 119)), none⟩, ⟨(some 127), (.ext 2 (.tmp 119)), none⟩, ⟨(some 22), (.mv (.tmp 125)), none⟩, ⟨(some 23), (.mv (.tmp 126)), none⟩, ⟨(some 24), (.mv (.tmp 127)), none⟩])
    (.seq (.seq
    (.reg [⟨(some 128), (.mv (.tmp 15)), none⟩, ⟨(some 129), (.mv (.tmp 20)), none⟩, ⟨(some 130), (.iad 1 (.tmp 128) (.tmp 129)), none⟩, ⟨(some 131), (.ld1 (.tmp 130)), none⟩, ⟨(some 132), (.call 102 [(.tmp 131)]), none⟩, ⟨(some 133), (.nt (.tmp 132)), none⟩])
    (.cond (.tmp 133)
    (.seq (.reg [⟨(some 8), (.mv (.const (.bool false))), none⟩]) .ret) .skip))
    (.seq (.seq
    (.reg [⟨(some 134), (.mv (.tmp 24)), none⟩, ⟨(some 135), (.nt (.tmp 134)), none⟩])
    (.cond (.tmp 135) (.exit 7) .skip))
    (.seq (.seq
    (.reg [⟨(some 136), (.mv (.tmp 18)), none⟩, ⟨(some 137), (.mv (.tmp 23)), none⟩, ⟨(some 138), (.iad 1 (.tmp 136) (.tmp 137)), none⟩, ⟨(some 139), (.ld1 (.tmp 138)), none⟩, ⟨(some 140), (.mv (.tmp 139)), none⟩, ⟨(some 141), (.mv (.tmp 1)), (some (140, false))⟩, ⟨(some 142), (.mv (.tmp 23)), (some (140, false))⟩, ⟨(some 143), (.cv .u64 (.tmp 142)), (some (140, false))⟩, ⟨(some 144), (.sh .shr (.tmp 141) (.tmp 143)), (some (140, false))⟩, ⟨(some 145), (.bt .and (.tmp 144) (.const (.int .u16 1))), (some (140, false))⟩, ⟨(some 146), (.cmp .eql (.tmp 145) (.const (.int .u16 0))), (some (140, false))⟩, ⟨(some 147), (.pick (.tmp 140) (.const (.bool true)) (.tmp 146)), none⟩, ⟨(some 148), (.mv (.tmp 147)), none⟩, ⟨(some 149), (.mv (.tmp 14)), (some (148, false))⟩, ⟨(some 150), (.mv (.tmp 2)), (some (148, false))⟩, ⟨(some 151), (.ar .add (.tmp 150) (.const (.int .i64 1))), (some (148, false))⟩, ⟨(some 152), (.mv (.tmp 23)), (some (148, false))⟩, ⟨(some 153), (.ar .add (.tmp 151) (.tmp 152)), (some (148, false))⟩, ⟨(some 154), (.call 33 [(.tmp 149), (.tmp 153)]), (some (148, false))⟩, ⟨(some 155), (.mv (.tmp 20)), (some (148, false))⟩, ⟨(some 156), (.bld #[(.int .i64 0), (.int .i64 0)] [(0, (1, (.const (.int .i64 2)))), (1, (1, (.tmp 155)))]), (some (148, false))⟩, ⟨(some 157), (.pcall 69 [(.tmp 156)]), (some (148, false))⟩, ⟨(some 158), (.cmp .neq (.tmp 154) (.tmp 157)), (some (148, false))⟩, ⟨(some 159), (.pick (.tmp 148) (.const (.bool true)) (.tmp 158)), none⟩])
    (.cond (.tmp 159)
    (.seq (.reg [⟨(some 8), (.mv (.const (.bool false))), none⟩]) .ret) .skip))
    (.seq (.reg [⟨(some 160), (.mv (.tmp 18)), none⟩, ⟨(some 161), (.mv (.tmp 23)), none⟩, ⟨(some 162), (.iad 1 (.tmp 160) (.tmp 161)), none⟩, ⟨none, (.st1 (.tmp 162) (.const (.bool true))), none⟩])
    (.reg [⟨(some 163), (.mv (.tmp 19)), none⟩, ⟨(some 164), (.ar .add (.tmp 163) (.const (.int .i64 1))), none⟩, ⟨(some 19), (.mv (.tmp 164)), none⟩]))))))))
    (.reg [⟨(some 107), (.mv (.tmp 20)), none⟩, ⟨(some 108), (.ar .add (.tmp 107) (.const (.int .i64 1))), none⟩, ⟨(some 20), (.mv (.tmp 108)), none⟩]))))))
    (.seq (.reg [⟨(some 165), (.mv (.tmp 19)), none⟩, ⟨(some 166), (.mv (.tmp 11)), none⟩, ⟨(some 167), (.mv (.tmp 2)), none⟩, ⟨(some 168), (.mn (.tmp 166) (.tmp 167)), none⟩, ⟨(some 169), (.cmp .eql (.tmp 165) (.tmp 168)), none⟩, ⟨(some 8), (.mv (.tmp 169)), none⟩]) .ret)))))))))))))))⟩ := by kernel_rfl

/-- allotment/allotmentlaw11.Full -/
theorem tr108 : trF Try.prog pures Try.f108 = some
  ⟨22, [(.cn 2 3), (.t 3)],
    (.seq (.reg [⟨(some 2), (.alc 57 (.agg #[(.int .i64 0), (.int .i64 0), (.int .i64 0)])), none⟩, ⟨(some 3), (.mv (.const (.slice none 0 0))), none⟩])
    (.seq (.reg [⟨(some 4), (.mv (.const (.slice none 0 0))), none⟩])
    (.seq (.seq
    (.reg [⟨(some 5), (.mv (.const (.int .i64 0))), none⟩])
    (.block 0
    (.loop (.seq
    (.seq (.reg [⟨(some 6), (.mv (.tmp 5)), none⟩, ⟨(some 7), (.mv (.tmp 0)), none⟩, ⟨(some 8), (.pcall 67 [(.tmp 7)]), none⟩, ⟨(some 9), (.cmp .lss (.tmp 6) (.tmp 8)), none⟩])
    (.cond (.tmp 9) .skip (.exit 0)))
    (.seq (.block 1
    (.reg [⟨(some 12), (.mv (.tmp 4)), none⟩, ⟨(some 13), (.mv (.tmp 0)), none⟩, ⟨(some 14), (.call 68 [(.tmp 13)]), none⟩, ⟨(some 15), (.bsl 26 #[(.int .u64 0)] 1 1 [(0, (.tmp 14))]), none⟩, ⟨(some 16), (.app 26 1 8 #[(.int .u64 0)] (.tmp 12) (.tmp 15)), none⟩, ⟨(some 4), (.mv (.tmp 16)), none⟩]))
    (.reg [⟨(some 10), (.mv (.tmp 5)), none⟩, ⟨(some 11), (.ar .add (.tmp 10) (.const (.int .i64 1))), none⟩, ⟨(some 5), (.mv (.tmp 11)), none⟩]))))))
    (.seq (.reg [⟨(some 17), (.mv (.tmp 0)), none⟩, ⟨(some 18), (.mv (.tmp 4)), none⟩, ⟨(some 19), (.call 70 [(.tmp 17), (.tmp 18)]), none⟩, ⟨(some 20), (.ext 0 (.tmp 19)), none⟩, ⟨(some 21), (.ext 1 (.tmp 19)), none⟩, ⟨none, (.stn 3 (.tmp 2) (.tmp 20)), none⟩, ⟨(some 3), (.mv (.tmp 21)), none⟩]) .ret))))⟩ := by kernel_rfl

end Go.Proofs.Ytfapipblclikbaa
