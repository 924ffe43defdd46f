/-
  The compact code of functions of this seat, as translated from the model: each translation holds by reckoning. Conditions: none.
-/
import Derived.Test.YtfopnendmcpglaaCode
set_option maxRecDepth 100000
namespace Go.Proofs.Ytfopnendmcpglaa
open Go Go.Ev

/-- allotment/allotmentlaw16.awake -/
theorem tr24 : trF Try.prog pures Try.f24 = some
  ⟨69, [(.t 0)],
    (.seq (.reg [⟨(some 0), (.mv (.const (.bool false))), none⟩])
    (.seq (.reg [⟨(some 7), (.bld #[(.int .i64 0), (.int .i64 0), (.int .i64 0)] [(0, (1, (.const (.int .i64 2)))), (1, (1, (.const (.int .i64 1))))]), none⟩, ⟨(some 1), (.alc 23 (.agg #[(.int .i64 0), (.int .i64 0), (.int .i64 0)])), none⟩, ⟨none, (.stn 3 (.tmp 1) (.tmp 7)), none⟩])
    (.seq (.reg [⟨(some 8), (.ldn 3 (.tmp 1)), none⟩, ⟨(some 9), (.pcall 58 [(.tmp 8)]), none⟩, ⟨(some 10), (.mks 46 8 (.int .u64 0) (.tmp 9) (.tmp 9)), none⟩, ⟨(some 2), (.mv (.tmp 10)), none⟩])
    (.seq (.reg [⟨(some 11), (.mv (.tmp 2)), none⟩, ⟨(some 12), (.mv (.tmp 2)), none⟩, ⟨(some 13), (.bld #[(.int .i64 0), (.int .i64 0), (.int .i64 0)] [(0, (1, (.const (.int .i64 3)))), (1, (1, (.const (.int .i64 2))))]), none⟩, ⟨(some 14), (.pcall 59 [(.tmp 13)]), none⟩, ⟨(some 15), (.bld #[(.int .i64 0), (.int .i64 0), (.int .i64 0)] [(0, (1, (.const (.int .i64 4))))]), none⟩, ⟨(some 16), (.pcall 59 [(.tmp 15)]), none⟩, ⟨(some 17), (.iad 1 (.tmp 11) (.const (.int .i64 1))), none⟩, ⟨none, (.st1 (.tmp 17) (.tmp 14)), none⟩, ⟨(some 18), (.iad 1 (.tmp 12) (.const (.int .i64 2))), none⟩, ⟨none, (.st1 (.tmp 18) (.tmp 16)), none⟩])
    (.seq (.reg [⟨(some 19), (.mv (.tmp 2)), none⟩, ⟨(some 20), (.call 16 [(.tmp 19)]), none⟩, ⟨(some 3), (.mv (.tmp 20)), none⟩])
    (.seq (.reg [⟨(some 21), (.ldn 3 (.tmp 1)), none⟩, ⟨(some 22), (.call 25 [(.tmp 21), (.const (.int .i64 0)), (.const (.int .i64 0))]), none⟩, ⟨(some 4), (.mv (.tmp 22)), none⟩])
    (.seq (.seq
    (.reg [⟨(some 23), (.mv (.tmp 3)), none⟩, ⟨(some 24), (.pnil false (.tmp 23)), none⟩, ⟨(some 25), (.mv (.tmp 24)), none⟩, ⟨(some 26), (.mv (.tmp 4)), (some (25, false))⟩, ⟨(some 27), (.pnil false (.tmp 26)), (some (25, false))⟩, ⟨(some 28), (.pick (.tmp 25) (.const (.bool true)) (.tmp 27)), none⟩])
    (.cond (.tmp 28)
    (.seq (.reg [⟨(some 0), (.mv (.const (.bool false))), none⟩]) .ret) .skip))
    (.seq (.reg [⟨(some 29), (.mv (.tmp 4)), none⟩, ⟨(some 30), (.mv (.tmp 3)), none⟩, ⟨(some 31), (.call 26 [(.tmp 29), (.tmp 30)]), none⟩])
    (.seq (.reg [⟨(some 32), (.mv (.tmp 4)), none⟩, ⟨(some 33), (.call 28 [(.tmp 32)]), none⟩, ⟨(some 5), (.mv (.tmp 33)), none⟩])
    (.seq (.reg [⟨(some 34), (.mv (.tmp 4)), none⟩, ⟨(some 35), (.mv (.tmp 3)), none⟩, ⟨(some 36), (.call 26 [(.tmp 34), (.tmp 35)]), none⟩])
    (.seq (.reg [⟨(some 37), (.mv (.tmp 4)), none⟩, ⟨(some 38), (.call 28 [(.tmp 37)]), none⟩, ⟨(some 6), (.mv (.tmp 38)), none⟩])
    (.seq (.reg [⟨(some 39), (.mv (.tmp 4)), none⟩, ⟨(some 40), (.mv (.tmp 3)), none⟩, ⟨(some 41), (.call 26 [(.tmp 39), (.tmp 40)]), none⟩])
    (.seq (.reg [⟨(some 42), (.mv (.tmp 4)), none⟩, ⟨(some 43), (.mv (.tmp 3)), none⟩, ⟨(some 44), (.call 26 [(.tmp 42), (.tmp 43)]), none⟩])
    (.seq (.reg [⟨(some 45), (.mv (.tmp 5)), none⟩, ⟨(some 46), (.nt (.tmp 45)), none⟩, ⟨(some 47), (.mv (.tmp 46)), none⟩, ⟨(some 48), (.mv (.tmp 6)), (some (47, true))⟩, ⟨(some 49), (.pick (.tmp 47) (.tmp 48) (.const (.bool false))), none⟩, ⟨(some 50), (.mv (.tmp 49)), none⟩, ⟨(some 51), (.mv (.tmp 4)), (some (50, true))⟩, ⟨(some 52), (.call 27 [(.tmp 51)]), (some (50, true))⟩, ⟨(some 53), (.pick (.tmp 50) (.tmp 52) (.const (.bool false))), none⟩, ⟨(some 54), (.mv (.tmp 53)), none⟩, ⟨(some 55), (.mv (.tmp 3)), (some (54, true))⟩, ⟨(some 56), (.call 55 [(.tmp 55)]), (some (54, true))⟩, ⟨(some 57), (.cmp .eql (.tmp 56) (.const (.int .i64 4))), (some (54, true))⟩, ⟨(some 58), (.pick (.tmp 54) (.tmp 57) (.const (.bool false))), none⟩, ⟨(some 59), (.mv (.tmp 58)), none⟩, ⟨(some 60), (.mv (.tmp 3)), (some (59, true))⟩, ⟨(some 61), (.call 36 [(.tmp 60), (.const (.int .i64 1))]), (some (59, true))⟩, ⟨(some 62), (.cmp .eql (.tmp 61) (.const (.int .u64 0))), (some (59, true))⟩, ⟨(some 63), (.pick (.tmp 59) (.tmp 62) (.const (.bool false))), none⟩, ⟨(some 64), (.mv (.tmp 63)), none⟩, ⟨(some 65), (.mv (.tmp 3)), (some (64, true))⟩, ⟨(some 66), (.call 36 [(.tmp 65), (.const (.int .i64 2))]), (some (64, true))⟩, ⟨(some 67), (.cmp .eql (.tmp 66) (.const (.int .u64 0))), (some (64, true))⟩, ⟨(some 68), (.pick (.tmp 64) (.tmp 67) (.const (.bool false))), none⟩, ⟨(some 0), (.mv (.tmp 68)), none⟩]) .ret))))))))))))))⟩ := by kernel_rfl

/-- allotment/allotmentlaw16.GiveAll -/
theorem tr4 : trF Try.prog pures Try.f4 = some
  ⟨129, [(.t 6)],
    (.seq (.reg [⟨(some 3), (.box 23 (.tmp 0)), none⟩, ⟨(some 5), (.box 25 (.tmp 2)), none⟩, ⟨(some 6), (.mv (.const (.bool false))), none⟩])
    (.seq (.seq
    (.reg [⟨(some 16), (.call 24 []), none⟩, ⟨(some 17), (.nt (.tmp 16)), none⟩])
    (.cond (.tmp 17)
    (.seq (.reg [⟨(some 6), (.mv (.const (.bool false))), none⟩]) .ret) .skip))
    (.seq (.seq
    (.reg [⟨(some 18), (.ldn 3 (.tmp 3)), none⟩, ⟨(some 19), (.mv (.tmp 1)), none⟩, ⟨(some 20), (.call 13 [(.tmp 18), (.tmp 19)]), none⟩, ⟨(some 21), (.nt (.tmp 20)), none⟩, ⟨(some 22), (.mv (.tmp 21)), none⟩, ⟨(some 23), (.ldn 3 (.tmp 3)), (some (22, false))⟩, ⟨(some 24), (.mv (.tmp 1)), (some (22, false))⟩, ⟨(some 25), (.call 14 [(.tmp 23), (.tmp 24)]), (some (22, false))⟩, ⟨(some 26), (.nt (.tmp 25)), (some (22, false))⟩, ⟨(some 27), (.pick (.tmp 22) (.const (.bool true)) (.tmp 26)), none⟩, ⟨(some 28), (.mv (.tmp 27)), none⟩, ⟨(some 29), (.ldn 3 (.tmp 3)), (some (28, false))⟩, ⟨(some 30), (.iadA 2 1 (.tmp 5) (.const (.int .i64 0))), (some (28, false))⟩, ⟨(some 31), (.ld1 (.tmp 30)), (some (28, false))⟩, ⟨(some 32), (.pcall 15 [(.tmp 29), (.tmp 31)]), (some (28, false))⟩, ⟨(some 33), (.cmp .lss (.tmp 32) (.const (.int .i64 0))), (some (28, false))⟩, ⟨(some 34), (.pick (.tmp 28) (.const (.bool true)) (.tmp 33)), none⟩])
    (.cond (.tmp 34)
    (.seq (.reg [⟨(some 6), (.mv (.const (.bool true))), none⟩]) .ret) .skip))
    (.seq (.reg [⟨(some 35), (.mv (.tmp 1)), none⟩, ⟨(some 36), (.call 16 [(.tmp 35)]), none⟩, ⟨(some 7), (.mv (.tmp 36)), none⟩])
    (.seq (.reg [⟨(some 37), (.ldn 3 (.tmp 3)), none⟩, ⟨(some 38), (.iadA 2 1 (.tmp 5) (.const (.int .i64 0))), none⟩, ⟨(some 39), (.ld1 (.tmp 38)), none⟩, ⟨(some 40), (.iadA 2 1 (.tmp 5) (.const (.int .i64 1))), none⟩, ⟨(some 41), (.ld1 (.tmp 40)), none⟩, ⟨(some 42), (.call 25 [(.tmp 37), (.tmp 39), (.tmp 41)]), none⟩, ⟨(some 8), (.mv (.tmp 42)), none⟩])
    (.seq (.seq
    (.reg [⟨(some 43), (.mv (.tmp 7)), none⟩, ⟨(some 44), (.pnil false (.tmp 43)), none⟩, ⟨(some 45), (.mv (.tmp 44)), none⟩, ⟨(some 46), (.mv (.tmp 8)), (some (45, false))⟩, ⟨(some 47), (.pnil false (.tmp 46)), (some (45, false))⟩, ⟨(some 48), (.pick (.tmp 45) (.const (.bool true)) (.tmp 47)), none⟩])
    (.cond (.tmp 48)
    (.seq (.reg [⟨(some 6), (.mv (.const (.bool false))), none⟩]) .ret) .skip))
    (.seq (.reg [⟨(some 49), (.ldn 3 (.tmp 3)), none⟩, ⟨(some 50), (.mv (.tmp 1)), none⟩, ⟨(some 51), (.call 22 [(.tmp 49), (.tmp 50)]), none⟩, ⟨(some 9), (.mv (.tmp 51)), none⟩])
    (.seq (.reg [⟨(some 10), (.mv (.const (.int .i64 (-1)))), none⟩])
    (.seq (.seq
    (.reg [⟨(some 11), (.mv (.const (.int .i64 0))), none⟩])
    (.block 0
    (.loop (.seq
    (.seq (.reg [⟨(some 52), (.mv (.tmp 11)), none⟩, ⟨(some 53), (.mv (.tmp 9)), none⟩, ⟨(some 54), (.len (.tmp 53)), none⟩, ⟨(some 55), (.cmp .lss (.tmp 52) (.tmp 54)), none⟩])
    (.cond (.tmp 55) .skip (.exit 0)))
    (.seq (.block 1
    (.seq (.reg [⟨(some 58), (.mv (.tmp 9)), none⟩, ⟨(some 59), (.mv (.tmp 11)), none⟩, ⟨(some 60), (.iad 2 (.tmp 58) (.tmp 59)), none⟩, ⟨(some 61), (.iadA 2 1 (.tmp 60) (.const (.int .i64 0))), none⟩, ⟨(some 62), (.ld1 (.tmp 61)), none⟩, ⟨(some 63), (.iadA 2 1 (.tmp 5) (.const (.int .i64 1))), none⟩, ⟨(some 64), (.ld1 (.tmp 63)), none⟩, ⟨(some 65), (.cmp .eql (.tmp 62) (.tmp 64)), none⟩])
    (.cond (.tmp 65)
    (.reg [⟨(some 66), (.mv (.tmp 11)), none⟩, ⟨(some 10), (.mv (.tmp 66)), none⟩]) .skip)))
    (.reg [⟨(some 56), (.mv (.tmp 11)), none⟩, ⟨(some 57), (.ar .add (.tmp 56) (.const (.int .i64 1))), none⟩, ⟨(some 11), (.mv (.tmp 57)), none⟩]))))))
    (.seq (.seq
    (.reg [⟨(some 12), (.mv (.const (.int .i64 0))), none⟩])
    (.block 2
    (.loop (.seq
    (.seq (.reg [⟨(some 67), (.mv (.tmp 12)), none⟩, ⟨(some 68), (.fad 2 (.tmp 3)), none⟩, ⟨(some 69), (.ld1 (.tmp 68)), none⟩, ⟨(some 70), (.ar .add (.tmp 69) (.const (.int .i64 20))), none⟩, ⟨(some 71), (.cmp .lss (.tmp 67) (.tmp 70)), none⟩])
    (.cond (.tmp 71) .skip (.exit 2)))
    (.seq (.block 3
    (.seq (.reg [⟨(some 74), (.mv (.tmp 8)), none⟩, ⟨(some 75), (.mv (.tmp 7)), none⟩, ⟨(some 76), (.call 26 [(.tmp 74), (.tmp 75)]), none⟩])
    (.seq (.draw (.take ⟨(some 77), (.ldn 3 (.tmp 3)), none⟩ (.take ⟨(some 78), (.mv (.tmp 7)), none⟩ (.alt false ⟨(some 79), (.call 20 [(.tmp 78)]), none⟩ (.alt false ⟨(some 80), (.call 14 [(.tmp 77), (.tmp 79)]), none⟩ (.take ⟨(some 81), (.nt (.tmp 80)), none⟩ .done) .stop) .stop))))
    (.cond (.tmp 81)
    (.seq (.reg [⟨(some 6), (.mv (.const (.bool false))), none⟩]) .ret) .skip))))
    (.reg [⟨(some 72), (.mv (.tmp 12)), none⟩, ⟨(some 73), (.ar .add (.tmp 72) (.const (.int .i64 1))), none⟩, ⟨(some 12), (.mv (.tmp 73)), none⟩]))))))
    (.seq (.draw (.take ⟨(some 82), (.ldn 3 (.tmp 3)), none⟩ (.take ⟨(some 83), (.mv (.tmp 7)), none⟩ (.alt false ⟨(some 84), (.call 20 [(.tmp 83)]), none⟩ (.alt false ⟨(some 85), (.call 22 [(.tmp 82), (.tmp 84)]), none⟩ (.take ⟨(some 13), (.mv (.tmp 85)), none⟩ .done) .stop) .stop))))
    (.seq (.seq
    (.reg [⟨(some 86), (.mv (.tmp 8)), none⟩, ⟨(some 87), (.call 27 [(.tmp 86)]), none⟩, ⟨(some 88), (.nt (.tmp 87)), none⟩, ⟨(some 89), (.mv (.tmp 88)), none⟩, ⟨(some 90), (.mv (.tmp 8)), (some (89, false))⟩, ⟨(some 91), (.call 28 [(.tmp 90)]), (some (89, false))⟩, ⟨(some 92), (.mv (.tmp 10)), (some (89, false))⟩, ⟨(some 93), (.cmp .geq (.tmp 92) (.const (.int .i64 0))), (some (89, false))⟩, ⟨(some 94), (.beq true (.tmp 91) (.tmp 93)), (some (89, false))⟩, ⟨(some 95), (.pick (.tmp 89) (.const (.bool true)) (.tmp 94)), none⟩])
    (.cond (.tmp 95)
    (.seq (.reg [⟨(some 6), (.mv (.const (.bool false))), none⟩]) .ret) .skip))
    (.seq (.seq
    (.reg [⟨(some 96), (.mv (.tmp 10)), none⟩, ⟨(some 97), (.cmp .lss (.tmp 96) (.const (.int .i64 0))), none⟩])
    (.cond (.tmp 97)
    (.seq (.reg [⟨(some 98), (.mv (.tmp 7)), none⟩, ⟨(some 99), (.call 20 [(.tmp 98)]), none⟩, ⟨(some 100), (.mv (.tmp 1)), none⟩, ⟨(some 101), (.call 29 [(.tmp 99), (.tmp 100)]), none⟩, ⟨(some 6), (.mv (.tmp 101)), none⟩]) .ret) .skip))
    (.seq (.seq
    (.reg [⟨(some 102), (.mv (.tmp 13)), none⟩, ⟨(some 103), (.len (.tmp 102)), none⟩, ⟨(some 104), (.mv (.tmp 9)), none⟩, ⟨(some 105), (.len (.tmp 104)), none⟩, ⟨(some 106), (.ar .sub (.tmp 105) (.const (.int .i64 1))), none⟩, ⟨(some 107), (.cmp .neq (.tmp 103) (.tmp 106)), none⟩])
    (.cond (.tmp 107)
    (.seq (.reg [⟨(some 6), (.mv (.const (.bool false))), none⟩]) .ret) .skip))
    (.seq (.seq
    (.reg [⟨(some 14), (.mv (.const (.int .i64 0))), none⟩])
    (.block 4
    (.loop (.seq
    (.seq (.reg [⟨(some 108), (.mv (.tmp 14)), none⟩, ⟨(some 109), (.mv (.tmp 13)), none⟩, ⟨(some 110), (.len (.tmp 109)), none⟩, ⟨(some 111), (.cmp .lss (.tmp 108) (.tmp 110)), none⟩])
    (.cond (.tmp 111) .skip (.exit 4)))
    (.seq (.block 5
    (.seq (.reg [⟨(some 114), (.mv (.tmp 14)), none⟩, ⟨(some 15), (.mv (.tmp 114)), none⟩])
    (.seq (.seq
    (.reg [⟨(some 115), (.mv (.tmp 14)), none⟩, ⟨(some 116), (.mv (.tmp 10)), none⟩, ⟨(some 117), (.cmp .geq (.tmp 115) (.tmp 116)), none⟩])
    (.cond (.tmp 117)
    (.reg [⟨(some 118), (.mv (.tmp 15)), none⟩, ⟨(some 119), (.ar .add (.tmp 118) (.const (.int .i64 1))), none⟩, ⟨(some 15), (.mv (.tmp 119)), none⟩]) .skip))
    (.seq (.reg [⟨(some 120), (.mv (.tmp 13)), none⟩, ⟨(some 121), (.mv (.tmp 14)), none⟩, ⟨(some 122), (.iad 2 (.tmp 120) (.tmp 121)), none⟩, ⟨(some 123), (.ldn 2 (.tmp 122)), none⟩, ⟨(some 124), (.mv (.tmp 9)), none⟩, ⟨(some 125), (.mv (.tmp 15)), none⟩, ⟨(some 126), (.iad 2 (.tmp 124) (.tmp 125)), none⟩, ⟨(some 127), (.ldn 2 (.tmp 126)), none⟩, ⟨(some 128), (.aeq true [(0, false), (1, false)] (.tmp 123) (.tmp 127)), none⟩])
    (.cond (.tmp 128)
    (.seq (.reg [⟨(some 6), (.mv (.const (.bool false))), none⟩]) .ret) .skip)))))
    (.reg [⟨(some 112), (.mv (.tmp 14)), none⟩, ⟨(some 113), (.ar .add (.tmp 112) (.const (.int .i64 1))), none⟩, ⟨(some 14), (.mv (.tmp 113)), none⟩]))))))
    (.seq (.reg [⟨(some 6), (.mv (.const (.bool true))), none⟩]) .ret))))))))))))))))⟩ := by kernel_rfl

end Go.Proofs.Ytfopnendmcpglaa
