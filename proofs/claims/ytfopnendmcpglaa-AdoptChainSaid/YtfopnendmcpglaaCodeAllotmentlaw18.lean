/-
  The compact code of functions of this seat, as translated from the model: each translation holds by reckoning. Conditions: none.
-/
import Derived.Test.YtfopnendmcpglaaCode
set_option maxRecDepth 100000
namespace Go.Proofs.Ytfopnendmcpglaa
open Go Go.Ev

/-- allotment/allotmentlaw18.awake -/
theorem tr30 : trF Try.prog pures Try.f30 = some
  ⟨68, [(.t 0)],
    (.seq (.reg [⟨(some 0), (.mv (.const (.bool false))), none⟩])
    (.seq (.reg [⟨(some 7), (.bld #[(.int .i64 0), (.int .i64 0), (.int .i64 0)] [(0, (1, (.const (.int .i64 1)))), (1, (1, (.const (.int .i64 2)))), (2, (1, (.const (.int .i64 1))))]), none⟩, ⟨(some 1), (.alc 23 (.agg #[(.int .i64 0), (.int .i64 0), (.int .i64 0)])), none⟩, ⟨none, (.stn 3 (.tmp 1) (.tmp 7)), none⟩])
    (.seq (.reg [⟨(some 8), (.ldn 3 (.tmp 1)), none⟩, ⟨(some 9), (.pcall 58 [(.tmp 8)]), none⟩, ⟨(some 10), (.mks 46 8 (.int .u64 0) (.tmp 9) (.tmp 9)), none⟩, ⟨(some 2), (.mv (.tmp 10)), none⟩])
    (.seq (.reg [⟨(some 11), (.mv (.tmp 2)), none⟩, ⟨(some 12), (.mv (.tmp 2)), none⟩, ⟨(some 13), (.pcall 32 [(.const (.int .i64 1)), (.const (.int .i64 0))]), none⟩, ⟨(some 14), (.pcall 32 [(.const (.int .i64 1)), (.const (.int .i64 0))]), none⟩, ⟨(some 15), (.iad 1 (.tmp 11) (.const (.int .i64 0))), none⟩, ⟨none, (.st1 (.tmp 15) (.tmp 13)), none⟩, ⟨(some 16), (.iad 1 (.tmp 12) (.const (.int .i64 1))), none⟩, ⟨none, (.st1 (.tmp 16) (.tmp 14)), none⟩])
    (.seq (.reg [⟨(some 17), (.mv (.tmp 2)), none⟩, ⟨(some 18), (.call 16 [(.tmp 17)]), none⟩, ⟨(some 3), (.mv (.tmp 18)), none⟩])
    (.seq (.draw (.take ⟨(some 19), (.ldn 3 (.tmp 1)), none⟩ (.take ⟨(some 21), (.ldn 3 (.tmp 1)), none⟩ (.alt false ⟨(some 20), (.call 33 [(.tmp 19), (.const (.int .i64 0)), (.const (.int .i64 1))]), none⟩ (.alt false ⟨(some 22), (.call 33 [(.tmp 21), (.const (.int .i64 0)), (.const (.int .i64 1))]), none⟩ (.take ⟨(some 4), (.mv (.tmp 20)), none⟩ (.take ⟨(some 5), (.mv (.tmp 22)), none⟩ .done)) .stop) .stop))))
    (.seq (.seq
    (.reg [⟨(some 23), (.mv (.tmp 3)), none⟩, ⟨(some 24), (.pnil false (.tmp 23)), none⟩, ⟨(some 25), (.mv (.tmp 24)), none⟩, ⟨(some 26), (.mv (.tmp 4)), (some (25, false))⟩, ⟨(some 27), (.pnil false (.tmp 26)), (some (25, false))⟩, ⟨(some 28), (.pick (.tmp 25) (.const (.bool true)) (.tmp 27)), none⟩, ⟨(some 29), (.mv (.tmp 28)), none⟩, ⟨(some 30), (.mv (.tmp 5)), (some (29, false))⟩, ⟨(some 31), (.pnil false (.tmp 30)), (some (29, false))⟩, ⟨(some 32), (.pick (.tmp 29) (.const (.bool true)) (.tmp 31)), none⟩])
    (.cond (.tmp 32)
    (.seq (.reg [⟨(some 0), (.mv (.const (.bool false))), none⟩]) .ret) .skip))
    (.seq (.reg [⟨(some 33), (.mv (.tmp 4)), none⟩, ⟨(some 34), (.mv (.tmp 3)), none⟩, ⟨(some 35), (.call 34 [(.tmp 33), (.tmp 34)]), none⟩])
    (.seq (.reg [⟨(some 36), (.mv (.tmp 3)), none⟩, ⟨(some 37), (.pcall 32 [(.const (.int .i64 2)), (.const (.int .i64 0))]), none⟩, ⟨(some 38), (.call 31 [(.tmp 36), (.const (.int .i64 1)), (.tmp 37)]), none⟩])
    (.seq (.seq
    (.reg [⟨(some 6), (.mv (.const (.int .i64 0))), none⟩])
    (.block 0
    (.loop (.seq
    (.seq (.reg [⟨(some 39), (.mv (.tmp 6)), none⟩, ⟨(some 40), (.cmp .lss (.tmp 39) (.const (.int .i64 60))), none⟩])
    (.cond (.tmp 40) .skip (.exit 0)))
    (.seq (.block 1
    (.reg [⟨(some 43), (.mv (.tmp 5)), none⟩, ⟨(some 44), (.mv (.tmp 3)), none⟩, ⟨(some 45), (.call 34 [(.tmp 43), (.tmp 44)]), none⟩]))
    (.reg [⟨(some 41), (.mv (.tmp 6)), none⟩, ⟨(some 42), (.ar .add (.tmp 41) (.const (.int .i64 1))), none⟩, ⟨(some 6), (.mv (.tmp 42)), none⟩]))))))
    (.seq (.reg [⟨(some 46), (.mv (.tmp 4)), none⟩, ⟨(some 47), (.call 37 [(.tmp 46)]), none⟩, ⟨(some 48), (.mv (.tmp 47)), none⟩, ⟨(some 49), (.mv (.tmp 4)), (some (48, true))⟩, ⟨(some 50), (.call 39 [(.tmp 49)]), (some (48, true))⟩, ⟨(some 51), (.cmp .eql (.tmp 50) (.const (.int .i64 5))), (some (48, true))⟩, ⟨(some 52), (.pick (.tmp 48) (.tmp 51) (.const (.bool false))), none⟩, ⟨(some 53), (.mv (.tmp 52)), none⟩, ⟨(some 54), (.mv (.tmp 5)), (some (53, true))⟩, ⟨(some 55), (.call 37 [(.tmp 54)]), (some (53, true))⟩, ⟨(some 56), (.pick (.tmp 53) (.tmp 55) (.const (.bool false))), none⟩, ⟨(some 57), (.mv (.tmp 56)), none⟩, ⟨(some 58), (.mv (.tmp 5)), (some (57, true))⟩, ⟨(some 59), (.call 39 [(.tmp 58)]), (some (57, true))⟩, ⟨(some 60), (.cmp .eql (.tmp 59) (.const (.int .i64 0))), (some (57, true))⟩, ⟨(some 61), (.pick (.tmp 57) (.tmp 60) (.const (.bool false))), none⟩, ⟨(some 62), (.mv (.tmp 61)), none⟩, ⟨(some 63), (.mv (.tmp 3)), (some (62, true))⟩, ⟨(some 64), (.call 36 [(.tmp 63), (.const (.int .i64 1))]), (some (62, true))⟩, ⟨(some 65), (.pcall 32 [(.const (.int .i64 4)), (.const (.int .i64 0))]), (some (62, true))⟩, ⟨(some 66), (.cmp .eql (.tmp 64) (.tmp 65)), (some (62, true))⟩, ⟨(some 67), (.pick (.tmp 62) (.tmp 66) (.const (.bool false))), none⟩, ⟨(some 0), (.mv (.tmp 67)), none⟩]) .ret)))))))))))⟩ := by kernel_rfl

/-- allotment/allotmentlaw18.AdoptChain -/
theorem tr5 : trF Try.prog pures Try.f5 = some
  ⟨178, [(.t 6)],
    (.seq (.reg [⟨(some 3), (.box 23 (.tmp 0)), none⟩, ⟨(some 6), (.mv (.const (.bool false))), none⟩])
    (.seq (.seq
    (.reg [⟨(some 24), (.call 30 []), none⟩, ⟨(some 25), (.nt (.tmp 24)), none⟩])
    (.cond (.tmp 25)
    (.seq (.reg [⟨(some 6), (.mv (.const (.bool false))), none⟩]) .ret) .skip))
    (.seq (.seq
    (.reg [⟨(some 26), (.ldn 3 (.tmp 3)), none⟩, ⟨(some 27), (.mv (.tmp 1)), none⟩, ⟨(some 28), (.call 13 [(.tmp 26), (.tmp 27)]), none⟩, ⟨(some 29), (.nt (.tmp 28)), none⟩, ⟨(some 30), (.mv (.tmp 29)), none⟩, ⟨(some 31), (.ldn 3 (.tmp 3)), (some (30, false))⟩, ⟨(some 32), (.mv (.tmp 1)), (some (30, false))⟩, ⟨(some 33), (.call 14 [(.tmp 31), (.tmp 32)]), (some (30, false))⟩, ⟨(some 34), (.nt (.tmp 33)), (some (30, false))⟩, ⟨(some 35), (.pick (.tmp 30) (.const (.bool true)) (.tmp 34)), none⟩, ⟨(some 36), (.mv (.tmp 35)), none⟩, ⟨(some 37), (.fad 1 (.tmp 3)), (some (36, false))⟩, ⟨(some 38), (.ld1 (.tmp 37)), (some (36, false))⟩, ⟨(some 39), (.cmp .lss (.tmp 38) (.const (.int .i64 3))), (some (36, false))⟩, ⟨(some 40), (.pick (.tmp 36) (.const (.bool true)) (.tmp 39)), none⟩, ⟨(some 41), (.mv (.tmp 40)), none⟩, ⟨(some 42), (.mv (.tmp 2)), (some (41, false))⟩, ⟨(some 43), (.len (.tmp 42)), (some (41, false))⟩, ⟨(some 44), (.cmp .gtr (.tmp 43) (.const (.int .i64 5))), (some (41, false))⟩, ⟨(some 45), (.pick (.tmp 41) (.const (.bool true)) (.tmp 44)), none⟩])
    (.cond (.tmp 45)
    (.seq (.reg [⟨(some 6), (.mv (.const (.bool true))), none⟩]) .ret) .skip))
    (.seq (.reg [⟨(some 46), (.mv (.tmp 1)), none⟩, ⟨(some 47), (.call 16 [(.tmp 46)]), none⟩, ⟨(some 7), (.mv (.tmp 47)), none⟩])
    (.seq (.seq
    (.reg [⟨(some 48), (.mv (.tmp 7)), none⟩, ⟨(some 49), (.pnil false (.tmp 48)), none⟩])
    (.cond (.tmp 49)
    (.seq (.reg [⟨(some 6), (.mv (.const (.bool false))), none⟩]) .ret) .skip))
    (.seq (.seq
    (.reg [⟨(some 8), (.mv (.const (.int .i64 1))), none⟩])
    (.block 0
    (.loop (.seq
    (.seq (.reg [⟨(some 50), (.mv (.tmp 8)), none⟩, ⟨(some 51), (.fad 1 (.tmp 3)), none⟩, ⟨(some 52), (.ld1 (.tmp 51)), none⟩, ⟨(some 53), (.cmp .lss (.tmp 50) (.tmp 52)), none⟩])
    (.cond (.tmp 53) .skip (.exit 0)))
    (.seq (.block 1
    (.reg [⟨(some 56), (.mv (.tmp 7)), none⟩, ⟨(some 57), (.mv (.tmp 8)), none⟩, ⟨(some 58), (.pcall 32 [(.const (.int .i64 1)), (.const (.int .i64 0))]), none⟩, ⟨(some 59), (.call 31 [(.tmp 56), (.tmp 57), (.tmp 58)]), none⟩]))
    (.reg [⟨(some 54), (.mv (.tmp 8)), none⟩, ⟨(some 55), (.ar .add (.tmp 54) (.const (.int .i64 1))), none⟩, ⟨(some 8), (.mv (.tmp 55)), none⟩]))))))
    (.seq (.reg [⟨(some 60), (.mv (.tmp 7)), none⟩, ⟨(some 61), (.pcall 32 [(.const (.int .i64 2)), (.const (.int .i64 0))]), none⟩, ⟨(some 62), (.call 31 [(.tmp 60), (.const (.int .i64 0)), (.tmp 61)]), none⟩])
    (.seq (.reg [⟨(some 63), (.fad 1 (.tmp 3)), none⟩, ⟨(some 64), (.ld1 (.tmp 63)), none⟩, ⟨(some 65), (.ar .sub (.tmp 64) (.const (.int .i64 1))), none⟩, ⟨(some 9), (.mv (.tmp 65)), none⟩])
    (.seq (.reg [⟨(some 66), (.fad 0 (.tmp 3)), none⟩, ⟨(some 67), (.ld1 (.tmp 66)), none⟩, ⟨(some 68), (.ar .mul (.const (.int .i64 60)) (.tmp 67)), none⟩, ⟨(some 69), (.fad 2 (.tmp 3)), none⟩, ⟨(some 70), (.ld1 (.tmp 69)), none⟩, ⟨(some 71), (.ar .add (.tmp 68) (.tmp 70)), none⟩, ⟨(some 72), (.ar .add (.tmp 71) (.const (.int .i64 20))), none⟩, ⟨(some 10), (.mv (.tmp 72)), none⟩])
    (.seq (.seq
    (.reg [⟨(some 11), (.mv (.const (.int .i64 1))), none⟩])
    (.block 2
    (.loop (.seq
    (.seq (.reg [⟨(some 73), (.mv (.tmp 11)), none⟩, ⟨(some 74), (.mv (.tmp 9)), none⟩, ⟨(some 75), (.cmp .lss (.tmp 73) (.tmp 74)), none⟩])
    (.cond (.tmp 75) .skip (.exit 2)))
    (.seq (.block 3
    (.seq (.reg [⟨(some 78), (.ldn 3 (.tmp 3)), none⟩, ⟨(some 79), (.mv (.tmp 11)), none⟩, ⟨(some 80), (.call 33 [(.tmp 78), (.tmp 79), (.const (.int .i64 0))]), none⟩, ⟨(some 12), (.mv (.tmp 80)), none⟩])
    (.seq (.seq
    (.reg [⟨(some 81), (.mv (.tmp 12)), none⟩, ⟨(some 82), (.pnil false (.tmp 81)), none⟩])
    (.cond (.tmp 82)
    (.seq (.reg [⟨(some 6), (.mv (.const (.bool false))), none⟩]) .ret) .skip))
    (.seq (.reg [⟨(some 83), (.mv (.tmp 10)), none⟩, ⟨(some 13), (.mv (.tmp 83)), none⟩])
    (.seq (.seq
    (.reg [⟨(some 84), (.mv (.tmp 11)), none⟩, ⟨(some 85), (.ar .sub (.tmp 84) (.const (.int .i64 1))), none⟩, ⟨(some 86), (.mv (.tmp 2)), none⟩, ⟨(some 87), (.len (.tmp 86)), none⟩, ⟨(some 88), (.cmp .lss (.tmp 85) (.tmp 87)), none⟩])
    (.cond (.tmp 88)
    (.reg [⟨(some 89), (.mv (.tmp 2)), none⟩, ⟨(some 90), (.mv (.tmp 11)), none⟩, ⟨(some 91), (.ar .sub (.tmp 90) (.const (.int .i64 1))), none⟩, ⟨(some 92), (.iad 1 (.tmp 89) (.tmp 91)), none⟩, ⟨(some 93), (.ld1 (.tmp 92)), none⟩, ⟨(some 94), (.cv .i64 (.tmp 93)), none⟩, ⟨(some 95), (.mv (.tmp 10)), none⟩, ⟨(some 96), (.dv .rem (.tmp 94) (.tmp 95)), none⟩, ⟨(some 13), (.mv (.tmp 96)), none⟩]) .skip))
    (.seq (.seq
    (.reg [⟨(some 14), (.mv (.const (.int .i64 0))), none⟩])
    (.block 4
    (.loop (.seq
    (.seq (.reg [⟨(some 97), (.mv (.tmp 14)), none⟩, ⟨(some 98), (.mv (.tmp 13)), none⟩, ⟨(some 99), (.cmp .lss (.tmp 97) (.tmp 98)), none⟩])
    (.cond (.tmp 99) .skip (.exit 4)))
    (.seq (.block 5
    (.reg [⟨(some 102), (.mv (.tmp 12)), none⟩, ⟨(some 103), (.mv (.tmp 7)), none⟩, ⟨(some 104), (.call 34 [(.tmp 102), (.tmp 103)]), none⟩]))
    (.reg [⟨(some 100), (.mv (.tmp 14)), none⟩, ⟨(some 101), (.ar .add (.tmp 100) (.const (.int .i64 1))), none⟩, ⟨(some 14), (.mv (.tmp 101)), none⟩]))))))
    (.reg [⟨(some 105), (.mv (.tmp 7)), none⟩, ⟨(some 106), (.mv (.tmp 11)), none⟩, ⟨(some 107), (.pcall 32 [(.const (.int .i64 2)), (.const (.int .i64 0))]), none⟩, ⟨(some 108), (.call 31 [(.tmp 105), (.tmp 106), (.tmp 107)]), none⟩])))))))
    (.reg [⟨(some 76), (.mv (.tmp 11)), none⟩, ⟨(some 77), (.ar .add (.tmp 76) (.const (.int .i64 1))), none⟩, ⟨(some 11), (.mv (.tmp 77)), none⟩]))))))
    (.seq (.seq
    (.reg [⟨(some 15), (.mv (.const (.int .i64 0))), none⟩])
    (.block 6
    (.loop (.seq
    (.seq (.reg [⟨(some 109), (.mv (.tmp 15)), none⟩, ⟨(some 110), (.mv (.tmp 9)), none⟩, ⟨(some 111), (.cmp .lss (.tmp 109) (.tmp 110)), none⟩])
    (.cond (.tmp 111) .skip (.exit 6)))
    (.seq (.block 7
    (.seq (.reg [⟨(some 114), (.ldn 3 (.tmp 3)), none⟩, ⟨(some 115), (.mv (.tmp 9)), none⟩, ⟨(some 116), (.mv (.tmp 15)), none⟩, ⟨(some 117), (.call 33 [(.tmp 114), (.tmp 115), (.tmp 116)]), none⟩, ⟨(some 16), (.mv (.tmp 117)), none⟩])
    (.seq (.seq
    (.reg [⟨(some 118), (.mv (.tmp 16)), none⟩, ⟨(some 119), (.pnil false (.tmp 118)), none⟩])
    (.cond (.tmp 119)
    (.seq (.reg [⟨(some 6), (.mv (.const (.bool false))), none⟩]) .ret) .skip))
    (.seq (.seq
    (.reg [⟨(some 17), (.mv (.const (.int .i64 0))), none⟩])
    (.block 8
    (.loop (.seq
    (.seq (.reg [⟨(some 120), (.mv (.tmp 17)), none⟩, ⟨(some 121), (.mv (.tmp 10)), none⟩, ⟨(some 122), (.cmp .lss (.tmp 120) (.tmp 121)), none⟩])
    (.cond (.tmp 122) .skip (.exit 8)))
    (.seq (.block 9
    (.reg [⟨(some 125), (.mv (.tmp 16)), none⟩, ⟨(some 126), (.mv (.tmp 7)), none⟩, ⟨(some 127), (.call 34 [(.tmp 125), (.tmp 126)]), none⟩]))
    (.reg [⟨(some 123), (.mv (.tmp 17)), none⟩, ⟨(some 124), (.ar .add (.tmp 123) (.const (.int .i64 1))), none⟩, ⟨(some 17), (.mv (.tmp 124)), none⟩]))))))
    (.seq (.reg [⟨(some 129), (.mv (.tmp 7)), none⟩, ⟨(some 130), (.mv (.tmp 15)), none⟩, ⟨(some 131), (.call 36 [(.tmp 129), (.tmp 130)]), none⟩, ⟨(some 132), (.pcall 35 [(.tmp 131)]), none⟩, ⟨(some 128), (.mv (.tmp 132)), none⟩, ⟨(some 133), (.ext 0 (.tmp 128)), none⟩, ⟨(some 134), (.ext 1 (.tmp 128)), none⟩, ⟨(some 18), (.mv (.tmp 133)), none⟩, ⟨(some 19), (.mv (.tmp 134)), none⟩])
    (.seq (.reg [⟨(some 135), (.mv (.tmp 16)), none⟩, ⟨(some 136), (.call 37 [(.tmp 135)]), none⟩, ⟨(some 137), (.nt (.tmp 136)), none⟩, ⟨(some 138), (.mv (.tmp 137)), none⟩, ⟨(some 139), (.mv (.tmp 18)), (some (138, false))⟩, ⟨(some 140), (.cmp .neq (.tmp 139) (.const (.int .i64 4))), (some (138, false))⟩, ⟨(some 141), (.pick (.tmp 138) (.const (.bool true)) (.tmp 140)), none⟩])
    (.cond (.tmp 141)
    (.seq (.reg [⟨(some 6), (.mv (.const (.bool false))), none⟩]) .ret) .skip)))))))
    (.reg [⟨(some 112), (.mv (.tmp 15)), none⟩, ⟨(some 113), (.ar .add (.tmp 112) (.const (.int .i64 1))), none⟩, ⟨(some 15), (.mv (.tmp 113)), none⟩]))))))
    (.seq (.reg [⟨(some 142), (.mv (.tmp 7)), none⟩, ⟨(some 143), (.call 20 [(.tmp 142)]), none⟩, ⟨(some 20), (.mv (.tmp 143)), none⟩])
    (.seq (.seq
    (.reg [⟨(some 21), (.mv (.const (.int .i64 0))), none⟩])
    (.block 10
    (.loop (.seq
    (.seq (.reg [⟨(some 144), (.mv (.tmp 21)), none⟩, ⟨(some 145), (.fad 0 (.tmp 3)), none⟩, ⟨(some 146), (.ld1 (.tmp 145)), none⟩, ⟨(some 147), (.ar .mul (.tmp 146) (.const (.int .i64 64))), none⟩, ⟨(some 148), (.cmp .lss (.tmp 144) (.tmp 147)), none⟩])
    (.cond (.tmp 148) .skip (.exit 10)))
    (.seq (.block 11
    (.seq (.reg [⟨(some 152), (.ldn 3 (.tmp 3)), none⟩, ⟨(some 153), (.mv (.tmp 20)), none⟩, ⟨(some 154), (.mv (.tmp 21)), none⟩, ⟨(some 155), (.call 38 [(.tmp 152), (.tmp 153), (.tmp 154)]), none⟩, ⟨(some 151), (.mv (.tmp 155)), none⟩, ⟨(some 156), (.ext 0 (.tmp 151)), none⟩, ⟨(some 157), (.ext 1 (.tmp 151)), none⟩, ⟨(some 22), (.mv (.tmp 156)), none⟩, ⟨(some 23), (.mv (.tmp 157)), none⟩])
    (.seq (.reg [⟨(some 158), (.mv (.tmp 23)), none⟩, ⟨(some 159), (.mv (.tmp 158)), none⟩, ⟨(some 160), (.mv (.tmp 22)), (some (159, true))⟩, ⟨(some 161), (.mv (.tmp 9)), (some (159, true))⟩, ⟨(some 162), (.cmp .neq (.tmp 160) (.tmp 161)), (some (159, true))⟩, ⟨(some 163), (.pick (.tmp 159) (.tmp 162) (.const (.bool false))), none⟩])
    (.cond (.tmp 163)
    (.seq (.reg [⟨(some 6), (.mv (.const (.bool false))), none⟩]) .ret) .skip))))
    (.reg [⟨(some 149), (.mv (.tmp 21)), none⟩, ⟨(some 150), (.ar .add (.tmp 149) (.const (.int .i64 1))), none⟩, ⟨(some 21), (.mv (.tmp 150)), none⟩]))))))
    (.seq (.draw (.take ⟨(some 164), (.ldn 3 (.tmp 3)), none⟩ (.take ⟨(some 165), (.mv (.tmp 20)), none⟩ (.alt false ⟨(some 166), (.call 14 [(.tmp 164), (.tmp 165)]), none⟩ (.take ⟨(some 167), (.mv (.tmp 166)), none⟩ (.take ⟨(some 168), (.ldn 3 (.tmp 3)), (some (167, true))⟩ (.take ⟨(some 169), (.mv (.tmp 20)), (some (167, true))⟩ (.take ⟨(some 172), (.ldn 3 (.tmp 3)), (some (167, true))⟩ (.take ⟨(some 173), (.mv (.tmp 1)), (some (167, true))⟩ (.alt false ⟨(some 170), (.call 22 [(.tmp 168), (.tmp 169)]), (some (167, true))⟩ (.take ⟨(some 171), (.len (.tmp 170)), (some (167, true))⟩ (.alt false ⟨(some 174), (.call 22 [(.tmp 172), (.tmp 173)]), (some (167, true))⟩ (.take ⟨(some 175), (.len (.tmp 174)), (some (167, true))⟩ (.take ⟨(some 176), (.cmp .eql (.tmp 171) (.tmp 175)), (some (167, true))⟩ (.take ⟨(some 177), (.pick (.tmp 167) (.tmp 176) (.const (.bool false))), none⟩ (.take ⟨(some 6), (.mv (.tmp 177)), none⟩ .done)))) .stop)) .stop)))))) .stop)))) .ret))))))))))))))⟩ := by kernel_rfl

/-- allotment/allotmentlaw18.AdoptOthers -/
theorem tr6 : trF Try.prog pures Try.f6 = some
  ⟨226, [(.t 4)],
    (.seq (.reg [⟨(some 2), (.box 23 (.tmp 0)), none⟩, ⟨(some 4), (.mv (.const (.bool false))), none⟩])
    (.seq (.seq
    (.reg [⟨(some 22), (.call 30 []), none⟩, ⟨(some 23), (.nt (.tmp 22)), none⟩])
    (.cond (.tmp 23)
    (.seq (.reg [⟨(some 4), (.mv (.const (.bool false))), none⟩]) .ret) .skip))
    (.seq (.seq
    (.reg [⟨(some 24), (.ldn 3 (.tmp 2)), none⟩, ⟨(some 25), (.mv (.tmp 1)), none⟩, ⟨(some 26), (.call 13 [(.tmp 24), (.tmp 25)]), none⟩, ⟨(some 27), (.nt (.tmp 26)), none⟩, ⟨(some 28), (.mv (.tmp 27)), none⟩, ⟨(some 29), (.ldn 3 (.tmp 2)), (some (28, false))⟩, ⟨(some 30), (.mv (.tmp 1)), (some (28, false))⟩, ⟨(some 31), (.call 14 [(.tmp 29), (.tmp 30)]), (some (28, false))⟩, ⟨(some 32), (.nt (.tmp 31)), (some (28, false))⟩, ⟨(some 33), (.pick (.tmp 28) (.const (.bool true)) (.tmp 32)), none⟩, ⟨(some 34), (.mv (.tmp 33)), none⟩, ⟨(some 35), (.fad 1 (.tmp 2)), (some (34, false))⟩, ⟨(some 36), (.ld1 (.tmp 35)), (some (34, false))⟩, ⟨(some 37), (.cmp .lss (.tmp 36) (.const (.int .i64 2))), (some (34, false))⟩, ⟨(some 38), (.pick (.tmp 34) (.const (.bool true)) (.tmp 37)), none⟩])
    (.cond (.tmp 38)
    (.seq (.reg [⟨(some 4), (.mv (.const (.bool true))), none⟩]) .ret) .skip))
    (.seq (.reg [⟨(some 39), (.mv (.tmp 1)), none⟩, ⟨(some 40), (.call 16 [(.tmp 39)]), none⟩, ⟨(some 5), (.mv (.tmp 40)), none⟩])
    (.seq (.reg [⟨(some 41), (.ldn 3 (.tmp 2)), none⟩, ⟨(some 42), (.call 33 [(.tmp 41), (.const (.int .i64 1)), (.const (.int .i64 0))]), none⟩, ⟨(some 6), (.mv (.tmp 42)), none⟩])
    (.seq (.seq
    (.reg [⟨(some 43), (.mv (.tmp 5)), none⟩, ⟨(some 44), (.pnil false (.tmp 43)), none⟩, ⟨(some 45), (.mv (.tmp 44)), none⟩, ⟨(some 46), (.mv (.tmp 6)), (some (45, false))⟩, ⟨(some 47), (.pnil false (.tmp 46)), (some (45, false))⟩, ⟨(some 48), (.pick (.tmp 45) (.const (.bool true)) (.tmp 47)), none⟩])
    (.cond (.tmp 48)
    (.seq (.reg [⟨(some 4), (.mv (.const (.bool false))), none⟩]) .ret) .skip))
    (.seq (.reg [⟨(some 49), (.mv (.tmp 5)), none⟩, ⟨(some 50), (.pcall 32 [(.const (.int .i64 2)), (.const (.int .i64 0))]), none⟩, ⟨(some 51), (.call 31 [(.tmp 49), (.const (.int .i64 0)), (.tmp 50)]), none⟩])
    (.seq (.reg [⟨(some 52), (.mv (.tmp 5)), none⟩, ⟨(some 53), (.call 20 [(.tmp 52)]), none⟩, ⟨(some 7), (.mv (.tmp 53)), none⟩])
    (.seq (.seq
    (.reg [⟨(some 8), (.mv (.const (.int .i64 0))), none⟩])
    (.block 0
    (.loop (.seq
    (.seq (.reg [⟨(some 54), (.mv (.tmp 8)), none⟩, ⟨(some 55), (.fad 0 (.tmp 2)), none⟩, ⟨(some 56), (.ld1 (.tmp 55)), none⟩, ⟨(some 57), (.ar .mul (.const (.int .i64 60)) (.tmp 56)), none⟩, ⟨(some 58), (.fad 2 (.tmp 2)), none⟩, ⟨(some 59), (.ld1 (.tmp 58)), none⟩, ⟨(some 60), (.ar .add (.tmp 57) (.tmp 59)), none⟩, ⟨(some 61), (.ar .add (.tmp 60) (.const (.int .i64 20))), none⟩, ⟨(some 62), (.cmp .lss (.tmp 54) (.tmp 61)), none⟩])
    (.cond (.tmp 62) .skip (.exit 0)))
    (.seq (.block 1
    (.reg [⟨(some 65), (.mv (.tmp 6)), none⟩, ⟨(some 66), (.mv (.tmp 5)), none⟩, ⟨(some 67), (.call 34 [(.tmp 65), (.tmp 66)]), none⟩]))
    (.reg [⟨(some 63), (.mv (.tmp 8)), none⟩, ⟨(some 64), (.ar .add (.tmp 63) (.const (.int .i64 1))), none⟩, ⟨(some 8), (.mv (.tmp 64)), none⟩]))))))
    (.seq (.reg [⟨(some 68), (.mv (.tmp 5)), none⟩, ⟨(some 69), (.call 20 [(.tmp 68)]), none⟩, ⟨(some 9), (.mv (.tmp 69)), none⟩])
    (.seq (.seq
    (.reg [⟨(some 70), (.mv (.tmp 6)), none⟩, ⟨(some 71), (.call 37 [(.tmp 70)]), none⟩, ⟨(some 72), (.nt (.tmp 71)), none⟩, ⟨(some 73), (.mv (.tmp 72)), none⟩, ⟨(some 74), (.mv (.tmp 6)), (some (73, false))⟩, ⟨(some 75), (.call 39 [(.tmp 74)]), (some (73, false))⟩, ⟨(some 76), (.cmp .neq (.tmp 75) (.const (.int .i64 0))), (some (73, false))⟩, ⟨(some 77), (.pick (.tmp 73) (.const (.bool true)) (.tmp 76)), none⟩, ⟨(some 78), (.mv (.tmp 77)), none⟩, ⟨(some 79), (.ldn 3 (.tmp 2)), (some (78, false))⟩, ⟨(some 80), (.mv (.tmp 9)), (some (78, false))⟩, ⟨(some 81), (.call 14 [(.tmp 79), (.tmp 80)]), (some (78, false))⟩, ⟨(some 82), (.nt (.tmp 81)), (some (78, false))⟩, ⟨(some 83), (.pick (.tmp 78) (.const (.bool true)) (.tmp 82)), none⟩])
    (.cond (.tmp 83)
    (.seq (.reg [⟨(some 4), (.mv (.const (.bool false))), none⟩]) .ret) .skip))
    (.seq (.seq
    (.reg [⟨(some 10), (.mv (.const (.int .i64 0))), none⟩])
    (.block 2
    (.loop (.seq
    (.seq (.reg [⟨(some 84), (.mv (.tmp 10)), none⟩, ⟨(some 85), (.fad 0 (.tmp 2)), none⟩, ⟨(some 86), (.ld1 (.tmp 85)), none⟩, ⟨(some 87), (.cmp .lss (.tmp 84) (.tmp 86)), none⟩])
    (.cond (.tmp 87) .skip (.exit 2)))
    (.seq (.block 3
    (.seq (.reg [⟨(some 90), (.ldn 3 (.tmp 2)), none⟩, ⟨(some 91), (.mv (.tmp 10)), none⟩, ⟨(some 92), (.pcall 40 [(.tmp 90), (.tmp 91)]), none⟩, ⟨(some 11), (.mv (.tmp 92)), none⟩])
    (.seq (.draw (.take ⟨(some 94), (.ldn 3 (.tmp 2)), none⟩ (.take ⟨(some 95), (.mv (.tmp 10)), none⟩ (.take ⟨(some 96), (.mv (.tmp 7)), none⟩ (.take ⟨(some 97), (.mv (.tmp 11)), none⟩ (.take ⟨(some 98), (.iad 1 (.tmp 96) (.tmp 97)), none⟩ (.take ⟨(some 99), (.ld1 (.tmp 98)), none⟩ (.alt false ⟨(some 100), (.pcall 41 [(.tmp 94), (.tmp 95), (.tmp 99)]), none⟩ (.take ⟨(some 93), (.mv (.tmp 100)), none⟩ (.take ⟨(some 101), (.ext 0 (.tmp 93)), none⟩ (.take ⟨(some 102), (.ext 1 (.tmp 93)), none⟩ (.alt false ⟨(some 12), (.alc 59 (.agg #[(.int .i64 0), (.int .i64 0), (.int .i64 0)])), none⟩ (.alt false ⟨none, (.stn 3 (.tmp 12) (.tmp 101)), none⟩ (.take ⟨(some 13), (.mv (.tmp 102)), none⟩ .done) .stop) .stop)))) (.alt false ⟨(some 12), (.alc 59 (.agg #[(.int .i64 0), (.int .i64 0), (.int .i64 0)])), none⟩ (.alt false ⟨(some 100), (.pcall 41 [(.tmp 94), (.tmp 95), (.tmp 99)]), none⟩ (.take ⟨(some 93), (.mv (.tmp 100)), none⟩ (.take ⟨(some 101), (.ext 0 (.tmp 93)), none⟩ (.take ⟨(some 102), (.ext 1 (.tmp 93)), none⟩ (.alt false ⟨none, (.stn 3 (.tmp 12) (.tmp 101)), none⟩ (.take ⟨(some 13), (.mv (.tmp 102)), none⟩ .done) .stop)))) .stop) .stop)))))))))
    (.seq (.reg [⟨(some 103), (.fad 0 (.tmp 12)), none⟩, ⟨(some 104), (.ld1 (.tmp 103)), none⟩, ⟨(some 105), (.cmp .eql (.tmp 104) (.const (.int .i64 1))), none⟩, ⟨(some 106), (.mv (.tmp 105)), none⟩, ⟨(some 107), (.fad 1 (.tmp 12)), (some (106, true))⟩, ⟨(some 108), (.ld1 (.tmp 107)), (some (106, true))⟩, ⟨(some 109), (.cmp .eql (.tmp 108) (.const (.int .i64 0))), (some (106, true))⟩, ⟨(some 110), (.pick (.tmp 106) (.tmp 109) (.const (.bool false))), none⟩, ⟨(some 14), (.mv (.tmp 110)), none⟩])
    (.seq (.seq
    (.reg [⟨(some 111), (.fad 0 (.tmp 12)), none⟩, ⟨(some 112), (.ld1 (.tmp 111)), none⟩, ⟨(some 113), (.cmp .eql (.tmp 112) (.const (.int .i64 4))), none⟩])
    (.cond (.tmp 113)
    (.seq (.draw (.take ⟨(some 115), (.ldn 3 (.tmp 2)), none⟩ (.take ⟨(some 116), (.fad 1 (.tmp 12)), none⟩ (.take ⟨(some 117), (.ld1 (.tmp 116)), none⟩ (.take ⟨(some 118), (.mv (.tmp 7)), none⟩ (.take ⟨(some 119), (.ldn 3 (.tmp 2)), none⟩ (.take ⟨(some 120), (.fad 1 (.tmp 12)), none⟩ (.take ⟨(some 121), (.ld1 (.tmp 120)), none⟩ (.alt false ⟨(some 122), (.pcall 40 [(.tmp 119), (.tmp 121)]), none⟩ (.take ⟨(some 123), (.iad 1 (.tmp 118) (.tmp 122)), none⟩ (.take ⟨(some 124), (.ld1 (.tmp 123)), none⟩ (.alt false ⟨(some 125), (.pcall 41 [(.tmp 115), (.tmp 117), (.tmp 124)]), none⟩ (.take ⟨(some 114), (.mv (.tmp 125)), none⟩ (.take ⟨(some 126), (.ext 0 (.tmp 114)), none⟩ (.take ⟨(some 127), (.ext 1 (.tmp 114)), none⟩ (.alt false ⟨(some 15), (.alc 59 (.agg #[(.int .i64 0), (.int .i64 0), (.int .i64 0)])), none⟩ (.alt false ⟨none, (.stn 3 (.tmp 15) (.tmp 126)), none⟩ (.take ⟨(some 16), (.mv (.tmp 127)), none⟩ .done) .stop) .stop)))) (.alt false ⟨(some 15), (.alc 59 (.agg #[(.int .i64 0), (.int .i64 0), (.int .i64 0)])), none⟩ (.alt false ⟨(some 125), (.pcall 41 [(.tmp 115), (.tmp 117), (.tmp 124)]), none⟩ (.take ⟨(some 114), (.mv (.tmp 125)), none⟩ (.take ⟨(some 126), (.ext 0 (.tmp 114)), none⟩ (.take ⟨(some 127), (.ext 1 (.tmp 114)), none⟩ (.alt false ⟨none, (.stn 3 (.tmp 15) (.tmp 126)), none⟩ (.take ⟨(some 16), (.mv (.tmp 127)), none⟩ .done) .stop)))) .stop) .stop)))) (.alt false ⟨(some 15), (.alc 59 (.agg #[(.int .i64 0), (.int .i64 0), (.int .i64 0)])), none⟩ (.alt false ⟨(some 122), (.pcall 40 [(.tmp 119), (.tmp 121)]), none⟩ (.take ⟨(some 123), (.iad 1 (.tmp 118) (.tmp 122)), none⟩ (.take ⟨(some 124), (.ld1 (.tmp 123)), none⟩ (.alt false ⟨(some 125), (.pcall 41 [(.tmp 115), (.tmp 117), (.tmp 124)]), none⟩ (.take ⟨(some 114), (.mv (.tmp 125)), none⟩ (.take ⟨(some 126), (.ext 0 (.tmp 114)), none⟩ (.take ⟨(some 127), (.ext 1 (.tmp 114)), none⟩ (.alt false ⟨none, (.stn 3 (.tmp 15) (.tmp 126)), none⟩ (.take ⟨(some 16), (.mv (.tmp 127)), none⟩ .done) .stop)))) .stop))) .stop) .stop))))))))))
    (.reg [⟨(some 128), (.fad 0 (.tmp 15)), none⟩, ⟨(some 129), (.ld1 (.tmp 128)), none⟩, ⟨(some 130), (.cmp .eql (.tmp 129) (.const (.int .i64 1))), none⟩, ⟨(some 131), (.mv (.tmp 130)), none⟩, ⟨(some 132), (.fad 1 (.tmp 15)), (some (131, true))⟩, ⟨(some 133), (.ld1 (.tmp 132)), (some (131, true))⟩, ⟨(some 134), (.cmp .eql (.tmp 133) (.const (.int .i64 0))), (some (131, true))⟩, ⟨(some 135), (.pick (.tmp 131) (.tmp 134) (.const (.bool false))), none⟩, ⟨(some 14), (.mv (.tmp 135)), none⟩])) .skip))
    (.seq (.seq
    (.reg [⟨(some 136), (.mv (.tmp 14)), none⟩, ⟨(some 137), (.mv (.tmp 9)), none⟩, ⟨(some 138), (.mv (.tmp 11)), none⟩, ⟨(some 139), (.iad 1 (.tmp 137) (.tmp 138)), none⟩, ⟨(some 140), (.ld1 (.tmp 139)), none⟩, ⟨(some 141), (.mv (.tmp 7)), none⟩, ⟨(some 142), (.mv (.tmp 11)), none⟩, ⟨(some 143), (.iad 1 (.tmp 141) (.tmp 142)), none⟩, ⟨(some 144), (.ld1 (.tmp 143)), none⟩, ⟨(some 145), (.cmp .neq (.tmp 140) (.tmp 144)), none⟩, ⟨(some 146), (.beq true (.tmp 136) (.tmp 145)), none⟩, ⟨(some 147), (.mv (.tmp 146)), none⟩, ⟨(some 148), (.mv (.tmp 14)), (some (147, false))⟩, ⟨(some 149), (.mv (.tmp 148)), (some (147, false))⟩, ⟨(some 150), (.mv (.tmp 9)), (some (149, true))⟩, ⟨(some 151), (.mv (.tmp 11)), (some (149, true))⟩, ⟨(some 152), (.iad 1 (.tmp 150) (.tmp 151)), (some (149, true))⟩, ⟨(some 153), (.ld1 (.tmp 152)), (some (149, true))⟩, ⟨(some 154), (.cmp .neq (.tmp 153) (.const (.int .u64 0))), (some (149, true))⟩, ⟨(some 155), (.pick (.tmp 149) (.tmp 154) (.const (.bool false))), (some (147, false))⟩, ⟨(some 156), (.pick (.tmp 147) (.const (.bool true)) (.tmp 155)), none⟩])
    (.cond (.tmp 156)
    (.seq (.reg [⟨(some 4), (.mv (.const (.bool false))), none⟩]) .ret) .skip))
    (.seq (.reg [⟨(some 17), (.mv (.const (.int .i64 0))), none⟩])
    (.block 4
    (.loop (.seq
    (.seq (.reg [⟨(some 157), (.mv (.tmp 17)), none⟩, ⟨(some 158), (.cmp .lss (.tmp 157) (.const (.int .i64 16))), none⟩, ⟨(some 159), (.mv (.tmp 158)), none⟩, ⟨(some 160), (.mv (.tmp 14)), (some (159, true))⟩, ⟨(some 161), (.nt (.tmp 160)), (some (159, true))⟩, ⟨(some 162), (.pick (.tmp 159) (.tmp 161) (.const (.bool false))), none⟩])
    (.cond (.tmp 162) .skip (.exit 4)))
    (.seq (.block 5
    (.seq (.reg [⟨(some 165), (.ldn 3 (.tmp 2)), none⟩, ⟨(some 166), (.mv (.tmp 10)), none⟩, ⟨(some 167), (.mv (.tmp 17)), none⟩, ⟨(some 168), (.pcall 42 [(.tmp 165), (.tmp 166), (.tmp 167)]), none⟩, ⟨(some 18), (.mv (.tmp 168)), none⟩])
    (.seq (.reg [⟨(some 169), (.mv (.tmp 7)), none⟩, ⟨(some 170), (.mv (.tmp 18)), none⟩, ⟨(some 171), (.iad 1 (.tmp 169) (.tmp 170)), none⟩, ⟨(some 172), (.ld1 (.tmp 171)), none⟩, ⟨(some 173), (.pcall 43 [(.tmp 172)]), none⟩, ⟨(some 19), (.alc 64 (.agg #[(.int .i64 0), (.int .i64 0)])), none⟩, ⟨none, (.stn 2 (.tmp 19) (.tmp 173)), none⟩])
    (.seq (.reg [⟨(some 174), (.fad 0 (.tmp 12)), none⟩, ⟨(some 175), (.ld1 (.tmp 174)), none⟩, ⟨(some 176), (.cmp .eql (.tmp 175) (.const (.int .i64 2))), none⟩, ⟨(some 177), (.mv (.tmp 176)), none⟩, ⟨(some 178), (.fad 0 (.tmp 19)), (some (177, true))⟩, ⟨(some 179), (.ld1 (.tmp 178)), (some (177, true))⟩, ⟨(some 180), (.cmp .eql (.tmp 179) (.const (.int .i64 2))), (some (177, true))⟩, ⟨(some 181), (.pick (.tmp 177) (.tmp 180) (.const (.bool false))), none⟩, ⟨(some 182), (.mv (.tmp 181)), none⟩, ⟨(some 183), (.fad 1 (.tmp 19)), (some (182, true))⟩, ⟨(some 184), (.ld1 (.tmp 183)), (some (182, true))⟩, ⟨(some 185), (.cmp .eql (.tmp 184) (.const (.int .i64 0))), (some (182, true))⟩, ⟨(some 186), (.pick (.tmp 182) (.tmp 185) (.const (.bool false))), none⟩, ⟨(some 20), (.mv (.tmp 186)), none⟩])
    (.seq (.reg [⟨(some 187), (.mv (.tmp 20)), none⟩, ⟨(some 188), (.mv (.tmp 9)), none⟩, ⟨(some 189), (.mv (.tmp 18)), none⟩, ⟨(some 190), (.iad 1 (.tmp 188) (.tmp 189)), none⟩, ⟨(some 191), (.ld1 (.tmp 190)), none⟩, ⟨(some 192), (.mv (.tmp 7)), none⟩, ⟨(some 193), (.mv (.tmp 18)), none⟩, ⟨(some 194), (.iad 1 (.tmp 192) (.tmp 193)), none⟩, ⟨(some 195), (.ld1 (.tmp 194)), none⟩, ⟨(some 196), (.cmp .neq (.tmp 191) (.tmp 195)), none⟩, ⟨(some 197), (.beq true (.tmp 187) (.tmp 196)), none⟩])
    (.cond (.tmp 197)
    (.seq (.reg [⟨(some 4), (.mv (.const (.bool false))), none⟩]) .ret) .skip))))))
    (.reg [⟨(some 163), (.mv (.tmp 17)), none⟩, ⟨(some 164), (.ar .add (.tmp 163) (.const (.int .i64 1))), none⟩, ⟨(some 17), (.mv (.tmp 164)), none⟩]))))))))))))
    (.reg [⟨(some 88), (.mv (.tmp 10)), none⟩, ⟨(some 89), (.ar .add (.tmp 88) (.const (.int .i64 1))), none⟩, ⟨(some 10), (.mv (.tmp 89)), none⟩]))))))
    (.seq (.seq
    (.reg [⟨(some 21), (.mv (.const (.int .i64 0))), none⟩])
    (.block 6
    (.loop (.seq
    (.seq (.reg [⟨(some 198), (.mv (.tmp 21)), none⟩, ⟨(some 199), (.fad 2 (.tmp 2)), none⟩, ⟨(some 200), (.ld1 (.tmp 199)), none⟩, ⟨(some 201), (.cmp .lss (.tmp 198) (.tmp 200)), none⟩])
    (.cond (.tmp 201) .skip (.exit 6)))
    (.seq (.block 7
    (.seq (.reg [⟨(some 204), (.mv (.tmp 9)), none⟩, ⟨(some 205), (.ldn 3 (.tmp 2)), none⟩, ⟨(some 206), (.mv (.tmp 21)), none⟩, ⟨(some 207), (.pcall 44 [(.tmp 205), (.const (.int .i64 0)), (.tmp 206)]), none⟩, ⟨(some 208), (.iad 1 (.tmp 204) (.tmp 207)), none⟩, ⟨(some 209), (.ld1 (.tmp 208)), none⟩, ⟨(some 210), (.cmp .neq (.tmp 209) (.const (.int .u64 0))), none⟩, ⟨(some 211), (.mv (.tmp 210)), none⟩, ⟨(some 212), (.mv (.tmp 9)), (some (211, false))⟩, ⟨(some 213), (.ldn 3 (.tmp 2)), (some (211, false))⟩, ⟨(some 214), (.mv (.tmp 21)), (some (211, false))⟩, ⟨(some 215), (.pcall 44 [(.tmp 213), (.const (.int .i64 1)), (.tmp 214)]), (some (211, false))⟩, ⟨(some 216), (.iad 1 (.tmp 212) (.tmp 215)), (some (211, false))⟩, ⟨(some 217), (.ld1 (.tmp 216)), (some (211, false))⟩, ⟨(some 218), (.mv (.tmp 7)), (some (211, false))⟩, ⟨(some 219), (.ldn 3 (.tmp 2)), (some (211, false))⟩, ⟨(some 220), (.mv (.tmp 21)), (some (211, false))⟩, ⟨(some 221), (.pcall 44 [(.tmp 219), (.const (.int .i64 1)), (.tmp 220)]), (some (211, false))⟩, ⟨(some 222), (.iad 1 (.tmp 218) (.tmp 221)), (some (211, false))⟩, ⟨(some 223), (.ld1 (.tmp 222)), (some (211, false))⟩, ⟨(some 224), (.cmp .neq (.tmp 217) (.tmp 223)), (some (211, false))⟩, ⟨(some 225), (.pick (.tmp 211) (.const (.bool true)) (.tmp 224)), none⟩])
    (.cond (.tmp 225)
    (.seq (.reg [⟨(some 4), (.mv (.const (.bool false))), none⟩]) .ret) .skip)))
    (.reg [⟨(some 202), (.mv (.tmp 21)), none⟩, ⟨(some 203), (.ar .add (.tmp 202) (.const (.int .i64 1))), none⟩, ⟨(some 21), (.mv (.tmp 203)), none⟩]))))))
    (.seq (.reg [⟨(some 4), (.mv (.const (.bool true))), none⟩]) .ret))))))))))))))⟩ := by kernel_rfl

end Go.Proofs.Ytfopnendmcpglaa
