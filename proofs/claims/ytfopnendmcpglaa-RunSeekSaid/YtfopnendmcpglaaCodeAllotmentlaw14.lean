/-
  The compact code of functions of this seat, as translated from the model: each translation holds by reckoning. Conditions: none.
-/
import Derived.Test.YtfopnendmcpglaaCode
set_option maxRecDepth 100000
namespace Go.Proofs.Ytfopnendmcpglaa
open Go Go.Ev

/-- allotment/allotmentlaw14.RunSeek -/
theorem tr11 : trF Try.prog pures Try.f11 = some
  ⟨144, [(.t 6)],
    (.seq (.reg [⟨(some 4), (.box 68 (.tmp 1)), none⟩, ⟨(some 6), (.mv (.const (.bool false))), none⟩])
    (.seq (.seq
    (.reg [⟨(some 20), (.call 12 []), none⟩, ⟨(some 21), (.nt (.tmp 20)), none⟩])
    (.cond (.tmp 21)
    (.seq (.reg [⟨(some 6), (.mv (.const (.bool false))), none⟩]) .ret) .skip))
    (.seq (.reg [⟨(some 22), (.mv (.tmp 0)), none⟩, ⟨(some 23), (.cv .i64 (.tmp 22)), none⟩, ⟨(some 24), (.dv .rem (.tmp 23) (.const (.int .i64 9))), none⟩, ⟨(some 25), (.ar .add (.const (.int .i64 1)) (.tmp 24)), none⟩, ⟨(some 26), (.bld #[(.int .i64 0), (.int .i64 0), (.int .i64 0)] [(0, (1, (.tmp 25))), (1, (1, (.const (.int .i64 2))))]), none⟩, ⟨(some 7), (.alc 23 (.agg #[(.int .i64 0), (.int .i64 0), (.int .i64 0)])), none⟩, ⟨none, (.stn 3 (.tmp 7) (.tmp 26)), none⟩])
    (.seq (.reg [⟨(some 27), (.ldn 3 (.tmp 7)), none⟩, ⟨(some 28), (.pcall 58 [(.tmp 27)]), none⟩, ⟨(some 29), (.mks 46 8 (.int .u64 0) (.tmp 28) (.tmp 28)), none⟩, ⟨(some 30), (.call 16 [(.tmp 29)]), none⟩, ⟨(some 8), (.mv (.tmp 30)), none⟩])
    (.seq (.reg [⟨(some 31), (.iadA 2 1 (.tmp 4) (.const (.int .i64 0))), none⟩, ⟨(some 32), (.ld1 (.tmp 31)), none⟩, ⟨(some 33), (.cv .i64 (.tmp 32)), none⟩, ⟨(some 34), (.dv .rem (.tmp 33) (.const (.int .i64 8))), none⟩, ⟨(some 35), (.ar .add (.const (.int .i64 1)) (.tmp 34)), none⟩, ⟨(some 36), (.iadA 2 1 (.tmp 4) (.const (.int .i64 1))), none⟩, ⟨(some 37), (.ld1 (.tmp 36)), none⟩, ⟨(some 38), (.cv .i64 (.tmp 37)), none⟩, ⟨(some 39), (.dv .rem (.tmp 38) (.const (.int .i64 4))), none⟩, ⟨(some 9), (.mv (.tmp 35)), none⟩, ⟨(some 10), (.mv (.tmp 39)), none⟩])
    (.seq (.draw (.take ⟨(some 40), (.ldn 3 (.tmp 7)), none⟩ (.take ⟨(some 41), (.mv (.tmp 9)), none⟩ (.take ⟨(some 43), (.ldn 3 (.tmp 7)), none⟩ (.take ⟨(some 44), (.mv (.tmp 10)), none⟩ (.take ⟨(some 45), (.iadA 2 1 (.tmp 4) (.const (.int .i64 1))), none⟩ (.take ⟨(some 46), (.ld1 (.tmp 45)), none⟩ (.take ⟨(some 47), (.sh .shr (.tmp 46) (.const (.int .u64 2))), none⟩ (.take ⟨(some 48), (.cv .i64 (.tmp 47)), none⟩ (.take ⟨(some 49), (.fad 0 (.tmp 7)), none⟩ (.take ⟨(some 50), (.ld1 (.tmp 49)), none⟩ (.take ⟨(some 51), (.dv .rem (.tmp 48) (.tmp 50)), none⟩ (.alt false ⟨(some 42), (.call 17 [(.tmp 40), (.const (.int .i64 0)), (.tmp 41)]), none⟩ (.alt false ⟨(some 52), (.call 48 [(.tmp 43), (.const (.int .i64 1)), (.tmp 44), (.tmp 51)]), none⟩ (.take ⟨(some 11), (.mv (.tmp 42)), none⟩ (.take ⟨(some 12), (.mv (.tmp 52)), none⟩ .done)) .stop) .stop)))))))))))))
    (.seq (.seq
    (.reg [⟨(some 53), (.mv (.tmp 2)), none⟩, ⟨(some 54), (.len (.tmp 53)), none⟩, ⟨(some 55), (.cmp .gtr (.tmp 54) (.const (.int .i64 2000))), none⟩])
    (.cond (.tmp 55)
    (.seq (.reg [⟨(some 6), (.mv (.const (.bool true))), none⟩]) .ret) .skip))
    (.seq (.seq
    (.reg [⟨(some 56), (.mv (.tmp 8)), none⟩, ⟨(some 57), (.pnil false (.tmp 56)), none⟩, ⟨(some 58), (.mv (.tmp 57)), none⟩, ⟨(some 59), (.mv (.tmp 11)), (some (58, false))⟩, ⟨(some 60), (.pnil false (.tmp 59)), (some (58, false))⟩, ⟨(some 61), (.pick (.tmp 58) (.const (.bool true)) (.tmp 60)), none⟩, ⟨(some 62), (.mv (.tmp 61)), none⟩, ⟨(some 63), (.mv (.tmp 12)), (some (62, false))⟩, ⟨(some 64), (.pnil false (.tmp 63)), (some (62, false))⟩, ⟨(some 65), (.pick (.tmp 62) (.const (.bool true)) (.tmp 64)), none⟩])
    (.cond (.tmp 65)
    (.seq (.reg [⟨(some 6), (.mv (.const (.bool false))), none⟩]) .ret) .skip))
    (.seq (.seq
    (.reg [⟨(some 13), (.mv (.const (.int .i64 0))), none⟩])
    (.block 0
    (.loop (.seq
    (.seq (.reg [⟨(some 66), (.mv (.tmp 13)), none⟩, ⟨(some 67), (.mv (.tmp 2)), none⟩, ⟨(some 68), (.len (.tmp 67)), none⟩, ⟨(some 69), (.cmp .lss (.tmp 66) (.tmp 68)), none⟩])
    (.cond (.tmp 69) .skip (.exit 0)))
    (.seq (.block 1
    (.seq (.reg [⟨(some 72), (.mv (.tmp 2)), none⟩, ⟨(some 73), (.mv (.tmp 13)), none⟩, ⟨(some 74), (.iad 1 (.tmp 72) (.tmp 73)), none⟩, ⟨(some 75), (.ld1 (.tmp 74)), none⟩])
    (.cond (.tmp 75)
    (.reg [⟨(some 76), (.mv (.tmp 12)), none⟩, ⟨(some 77), (.mv (.tmp 8)), none⟩, ⟨(some 78), (.call 49 [(.tmp 76), (.tmp 77)]), none⟩])
    (.reg [⟨(some 79), (.mv (.tmp 11)), none⟩, ⟨(some 80), (.mv (.tmp 8)), none⟩, ⟨(some 81), (.call 19 [(.tmp 79), (.tmp 80)]), none⟩]))))
    (.reg [⟨(some 70), (.mv (.tmp 13)), none⟩, ⟨(some 71), (.ar .add (.tmp 70) (.const (.int .i64 1))), none⟩, ⟨(some 13), (.mv (.tmp 71)), none⟩]))))))
    (.seq (.seq
    (.reg [⟨(some 14), (.mv (.const (.int .i64 0))), none⟩])
    (.block 2
    (.loop (.seq
    (.seq (.reg [⟨(some 82), (.mv (.tmp 14)), none⟩, ⟨(some 83), (.fad 0 (.tmp 7)), none⟩, ⟨(some 84), (.ld1 (.tmp 83)), none⟩, ⟨(some 85), (.ar .mul (.const (.int .i64 80)) (.tmp 84)), none⟩, ⟨(some 86), (.ar .add (.tmp 85) (.const (.int .i64 80))), none⟩, ⟨(some 87), (.cmp .lss (.tmp 82) (.tmp 86)), none⟩])
    (.cond (.tmp 87) .skip (.exit 2)))
    (.seq (.block 3
    (.seq (.reg [⟨(some 90), (.mv (.tmp 11)), none⟩, ⟨(some 91), (.mv (.tmp 8)), none⟩, ⟨(some 92), (.call 19 [(.tmp 90), (.tmp 91)]), none⟩])
    (.reg [⟨(some 93), (.mv (.tmp 12)), none⟩, ⟨(some 94), (.mv (.tmp 8)), none⟩, ⟨(some 95), (.call 49 [(.tmp 93), (.tmp 94)]), none⟩])))
    (.reg [⟨(some 88), (.mv (.tmp 14)), none⟩, ⟨(some 89), (.ar .add (.tmp 88) (.const (.int .i64 1))), none⟩, ⟨(some 14), (.mv (.tmp 89)), none⟩]))))))
    (.seq (.reg [⟨(some 97), (.mv (.tmp 11)), none⟩, ⟨(some 98), (.call 21 [(.tmp 97)]), none⟩, ⟨(some 96), (.mv (.tmp 98)), none⟩, ⟨(some 99), (.ext 0 (.tmp 96)), none⟩, ⟨(some 100), (.ext 1 (.tmp 96)), none⟩, ⟨(some 15), (.mv (.tmp 99)), none⟩, ⟨(some 16), (.mv (.tmp 100)), none⟩])
    (.seq (.reg [⟨(some 102), (.mv (.tmp 12)), none⟩, ⟨(some 103), (.call 50 [(.tmp 102)]), none⟩, ⟨(some 101), (.mv (.tmp 103)), none⟩, ⟨(some 104), (.ext 0 (.tmp 101)), none⟩, ⟨(some 105), (.ext 1 (.tmp 101)), none⟩, ⟨(some 106), (.ext 2 (.tmp 101)), none⟩, ⟨(some 17), (.mv (.tmp 104)), none⟩, ⟨(some 18), (.mv (.tmp 105)), none⟩, ⟨(some 19), (.mv (.tmp 106)), none⟩])
    (.seq (.draw (.take ⟨(some 107), (.mv (.tmp 11)), none⟩ (.alt false ⟨(some 108), (.call 18 [(.tmp 107)]), none⟩ (.take ⟨(some 109), (.mv (.tmp 108)), none⟩ (.take ⟨(some 110), (.mv (.tmp 12)), (some (109, true))⟩ (.alt false ⟨(some 111), (.call 51 [(.tmp 110)]), (some (109, true))⟩ (.take ⟨(some 112), (.pick (.tmp 109) (.tmp 111) (.const (.bool false))), none⟩ (.take ⟨(some 113), (.mv (.tmp 112)), none⟩ (.take ⟨(some 114), (.ldn 3 (.tmp 7)), (some (113, true))⟩ (.take ⟨(some 115), (.mv (.tmp 8)), (some (113, true))⟩ (.alt false ⟨(some 116), (.call 20 [(.tmp 115)]), (some (113, true))⟩ (.alt false ⟨(some 117), (.call 14 [(.tmp 114), (.tmp 116)]), (some (113, true))⟩ (.take ⟨(some 118), (.pick (.tmp 113) (.tmp 117) (.const (.bool false))), none⟩ (.take ⟨(some 119), (.mv (.tmp 118)), none⟩ (.take ⟨(some 120), (.mv (.tmp 16)), (some (119, true))⟩ (.take ⟨(some 121), (.mv (.tmp 120)), (some (119, true))⟩ (.take ⟨(some 122), (.mv (.tmp 19)), (some (121, true))⟩ (.take ⟨(some 123), (.pick (.tmp 121) (.tmp 122) (.const (.bool false))), (some (119, true))⟩ (.take ⟨(some 124), (.mv (.tmp 123)), (some (119, true))⟩ (.take ⟨(some 125), (.mv (.tmp 17)), (some (124, true))⟩ (.take ⟨(some 126), (.mv (.tmp 15)), (some (124, true))⟩ (.take ⟨(some 127), (.cmp .geq (.tmp 125) (.tmp 126)), (some (124, true))⟩ (.take ⟨(some 128), (.pick (.tmp 124) (.tmp 127) (.const (.bool false))), (some (119, true))⟩ (.take ⟨(some 129), (.mv (.tmp 128)), (some (119, true))⟩ (.take ⟨(some 130), (.mv (.tmp 17)), (some (129, true))⟩ (.take ⟨(some 131), (.mv (.tmp 15)), (some (129, true))⟩ (.take ⟨(some 132), (.mv (.tmp 9)), (some (129, true))⟩ (.take ⟨(some 133), (.ar .add (.tmp 131) (.tmp 132)), (some (129, true))⟩ (.take ⟨(some 134), (.cmp .lss (.tmp 130) (.tmp 133)), (some (129, true))⟩ (.take ⟨(some 135), (.pick (.tmp 129) (.tmp 134) (.const (.bool false))), (some (119, true))⟩ (.take ⟨(some 136), (.nt (.tmp 135)), (some (119, true))⟩ (.take ⟨(some 137), (.pick (.tmp 119) (.tmp 136) (.const (.bool false))), none⟩ (.take ⟨(some 138), (.mv (.tmp 137)), none⟩ (.take ⟨(some 139), (.mv (.tmp 16)), (some (138, true))⟩ (.take ⟨(some 140), (.mv (.tmp 139)), (some (138, true))⟩ (.take ⟨(some 141), (.mv (.tmp 19)), (some (140, false))⟩ (.take ⟨(some 142), (.pick (.tmp 140) (.const (.bool true)) (.tmp 141)), (some (138, true))⟩ (.take ⟨(some 143), (.pick (.tmp 138) (.tmp 142) (.const (.bool false))), none⟩ (.take ⟨(some 6), (.mv (.tmp 143)), none⟩ .done))))))))))))))))))))))))))) .stop) .stop))))) .stop))) .stop))) .ret)))))))))))))⟩ := by kernel_rfl

/-- allotment/allotmentlaw14.awake -/
theorem tr12 : trF Try.prog pures Try.f12 = some
  ⟨59, [(.t 0)],
    (.seq (.reg [⟨(some 0), (.mv (.const (.bool false))), none⟩])
    (.seq (.reg [⟨(some 8), (.bld #[(.int .i64 0), (.int .i64 0), (.int .i64 0)] [(0, (1, (.const (.int .i64 3)))), (1, (1, (.const (.int .i64 1))))]), none⟩, ⟨(some 1), (.alc 23 (.agg #[(.int .i64 0), (.int .i64 0), (.int .i64 0)])), none⟩, ⟨none, (.stn 3 (.tmp 1) (.tmp 8)), none⟩])
    (.seq (.reg [⟨(some 9), (.ldn 3 (.tmp 1)), none⟩, ⟨(some 10), (.pcall 58 [(.tmp 9)]), none⟩, ⟨(some 11), (.mks 46 8 (.int .u64 0) (.tmp 10) (.tmp 10)), none⟩, ⟨(some 2), (.mv (.tmp 11)), none⟩])
    (.seq (.reg [⟨(some 12), (.mv (.tmp 2)), none⟩, ⟨(some 13), (.bld #[(.int .i64 0), (.int .i64 0), (.int .i64 0)] [(0, (1, (.const (.int .i64 3)))), (1, (1, (.const (.int .i64 1))))]), none⟩, ⟨(some 14), (.pcall 59 [(.tmp 13)]), none⟩, ⟨(some 15), (.iad 1 (.tmp 12) (.const (.int .i64 1))), none⟩, ⟨none, (.st1 (.tmp 15) (.tmp 14)), none⟩])
    (.seq (.reg [⟨(some 16), (.mv (.tmp 2)), none⟩, ⟨(some 17), (.call 16 [(.tmp 16)]), none⟩, ⟨(some 3), (.mv (.tmp 17)), none⟩])
    (.seq (.reg [⟨(some 18), (.ldn 3 (.tmp 1)), none⟩, ⟨(some 19), (.call 17 [(.tmp 18), (.const (.int .i64 0)), (.const (.int .i64 2))]), none⟩, ⟨(some 4), (.mv (.tmp 19)), none⟩])
    (.seq (.seq
    (.reg [⟨(some 20), (.mv (.tmp 3)), none⟩, ⟨(some 21), (.pnil false (.tmp 20)), none⟩, ⟨(some 22), (.mv (.tmp 21)), none⟩, ⟨(some 23), (.mv (.tmp 4)), (some (22, false))⟩, ⟨(some 24), (.pnil false (.tmp 23)), (some (22, false))⟩, ⟨(some 25), (.pick (.tmp 22) (.const (.bool true)) (.tmp 24)), none⟩])
    (.cond (.tmp 25)
    (.seq (.reg [⟨(some 0), (.mv (.const (.bool false))), none⟩]) .ret) .skip))
    (.seq (.seq
    (.reg [⟨(some 5), (.mv (.const (.int .i64 0))), none⟩])
    (.block 0
    (.loop (.seq
    (.seq (.reg [⟨(some 26), (.mv (.tmp 5)), none⟩, ⟨(some 27), (.cmp .lss (.tmp 26) (.const (.int .i64 6))), none⟩])
    (.cond (.tmp 27) .skip (.exit 0)))
    (.seq (.block 1
    (.reg [⟨(some 30), (.mv (.tmp 4)), none⟩, ⟨(some 31), (.mv (.tmp 3)), none⟩, ⟨(some 32), (.call 19 [(.tmp 30), (.tmp 31)]), none⟩]))
    (.reg [⟨(some 28), (.mv (.tmp 5)), none⟩, ⟨(some 29), (.ar .add (.tmp 28) (.const (.int .i64 1))), none⟩, ⟨(some 5), (.mv (.tmp 29)), none⟩]))))))
    (.seq (.reg [⟨(some 34), (.mv (.tmp 4)), none⟩, ⟨(some 35), (.call 21 [(.tmp 34)]), none⟩, ⟨(some 33), (.mv (.tmp 35)), none⟩, ⟨(some 36), (.ext 0 (.tmp 33)), none⟩, ⟨(some 37), (.ext 1 (.tmp 33)), none⟩, ⟨(some 6), (.mv (.tmp 36)), none⟩, ⟨(some 7), (.mv (.tmp 37)), none⟩])
    (.seq (.reg [⟨(some 38), (.mv (.tmp 4)), none⟩, ⟨(some 39), (.call 18 [(.tmp 38)]), none⟩, ⟨(some 40), (.mv (.tmp 39)), none⟩, ⟨(some 41), (.mv (.tmp 7)), (some (40, true))⟩, ⟨(some 42), (.pick (.tmp 40) (.tmp 41) (.const (.bool false))), none⟩, ⟨(some 43), (.mv (.tmp 42)), none⟩, ⟨(some 44), (.mv (.tmp 6)), (some (43, true))⟩, ⟨(some 45), (.cmp .eql (.tmp 44) (.const (.int .i64 1))), (some (43, true))⟩, ⟨(some 46), (.pick (.tmp 43) (.tmp 45) (.const (.bool false))), none⟩, ⟨(some 47), (.mv (.tmp 46)), none⟩, ⟨(some 48), (.mv (.tmp 3)), (some (47, true))⟩, ⟨(some 49), (.call 55 [(.tmp 48)]), (some (47, true))⟩, ⟨(some 50), (.cmp .eql (.tmp 49) (.const (.int .i64 6))), (some (47, true))⟩, ⟨(some 51), (.pick (.tmp 47) (.tmp 50) (.const (.bool false))), none⟩, ⟨(some 52), (.mv (.tmp 51)), none⟩, ⟨(some 53), (.mv (.tmp 3)), (some (52, true))⟩, ⟨(some 54), (.call 36 [(.tmp 53), (.const (.int .i64 3))]), (some (52, true))⟩, ⟨(some 55), (.bld #[(.int .i64 0), (.int .i64 0), (.int .i64 0)] [(0, (1, (.const (.int .i64 4)))), (1, (1, (.const (.int .i64 1))))]), (some (52, true))⟩, ⟨(some 56), (.pcall 59 [(.tmp 55)]), (some (52, true))⟩, ⟨(some 57), (.cmp .eql (.tmp 54) (.tmp 56)), (some (52, true))⟩, ⟨(some 58), (.pick (.tmp 52) (.tmp 57) (.const (.bool false))), none⟩, ⟨(some 0), (.mv (.tmp 58)), none⟩]) .ret))))))))))⟩ := by kernel_rfl

/-- allotment/allotmentlaw14.RunSound -/
theorem tr3 : trF Try.prog pures Try.f3 = some
  ⟨138, [(.t 6)],
    (.seq (.reg [⟨(some 3), (.box 23 (.tmp 0)), none⟩, ⟨(some 5), (.box 25 (.tmp 2)), none⟩, ⟨(some 6), (.mv (.const (.bool false))), none⟩])
    (.seq (.seq
    (.reg [⟨(some 17), (.call 12 []), none⟩, ⟨(some 18), (.nt (.tmp 17)), none⟩])
    (.cond (.tmp 18)
    (.seq (.reg [⟨(some 6), (.mv (.const (.bool false))), none⟩]) .ret) .skip))
    (.seq (.seq
    (.reg [⟨(some 19), (.ldn 3 (.tmp 3)), none⟩, ⟨(some 20), (.mv (.tmp 1)), none⟩, ⟨(some 21), (.call 13 [(.tmp 19), (.tmp 20)]), none⟩, ⟨(some 22), (.nt (.tmp 21)), none⟩, ⟨(some 23), (.mv (.tmp 22)), none⟩, ⟨(some 24), (.ldn 3 (.tmp 3)), (some (23, false))⟩, ⟨(some 25), (.mv (.tmp 1)), (some (23, false))⟩, ⟨(some 26), (.call 14 [(.tmp 24), (.tmp 25)]), (some (23, false))⟩, ⟨(some 27), (.nt (.tmp 26)), (some (23, false))⟩, ⟨(some 28), (.pick (.tmp 23) (.const (.bool true)) (.tmp 27)), none⟩, ⟨(some 29), (.mv (.tmp 28)), none⟩, ⟨(some 30), (.ldn 3 (.tmp 3)), (some (29, false))⟩, ⟨(some 31), (.iadA 2 1 (.tmp 5) (.const (.int .i64 0))), (some (29, false))⟩, ⟨(some 32), (.ld1 (.tmp 31)), (some (29, false))⟩, ⟨(some 33), (.pcall 15 [(.tmp 30), (.tmp 32)]), (some (29, false))⟩, ⟨(some 34), (.cmp .lss (.tmp 33) (.const (.int .i64 0))), (some (29, false))⟩, ⟨(some 35), (.pick (.tmp 29) (.const (.bool true)) (.tmp 34)), none⟩])
    (.cond (.tmp 35)
    (.seq (.reg [⟨(some 6), (.mv (.const (.bool true))), none⟩]) .ret) .skip))
    (.seq (.reg [⟨(some 36), (.iadA 2 1 (.tmp 5) (.const (.int .i64 1))), none⟩, ⟨(some 37), (.ld1 (.tmp 36)), none⟩, ⟨(some 38), (.dv .rem (.tmp 37) (.const (.int .i64 8))), none⟩, ⟨(some 39), (.ar .add (.tmp 38) (.const (.int .i64 8))), none⟩, ⟨(some 40), (.dv .rem (.tmp 39) (.const (.int .i64 8))), none⟩, ⟨(some 41), (.ar .add (.const (.int .i64 1)) (.tmp 40)), none⟩, ⟨(some 7), (.mv (.tmp 41)), none⟩])
    (.seq (.reg [⟨(some 42), (.mv (.tmp 1)), none⟩, ⟨(some 43), (.call 16 [(.tmp 42)]), none⟩, ⟨(some 8), (.mv (.tmp 43)), none⟩])
    (.seq (.reg [⟨(some 44), (.ldn 3 (.tmp 3)), none⟩, ⟨(some 45), (.iadA 2 1 (.tmp 5) (.const (.int .i64 0))), none⟩, ⟨(some 46), (.ld1 (.tmp 45)), none⟩, ⟨(some 47), (.mv (.tmp 7)), none⟩, ⟨(some 48), (.call 17 [(.tmp 44), (.tmp 46), (.tmp 47)]), none⟩, ⟨(some 9), (.mv (.tmp 48)), none⟩])
    (.seq (.seq
    (.reg [⟨(some 49), (.mv (.tmp 8)), none⟩, ⟨(some 50), (.pnil false (.tmp 49)), none⟩, ⟨(some 51), (.mv (.tmp 50)), none⟩, ⟨(some 52), (.mv (.tmp 9)), (some (51, false))⟩, ⟨(some 53), (.pnil false (.tmp 52)), (some (51, false))⟩, ⟨(some 54), (.pick (.tmp 51) (.const (.bool true)) (.tmp 53)), none⟩])
    (.cond (.tmp 54)
    (.seq (.reg [⟨(some 6), (.mv (.const (.bool false))), none⟩]) .ret) .skip))
    (.seq (.seq
    (.reg [⟨(some 10), (.mv (.const (.int .i64 0))), none⟩])
    (.block 0
    (.loop (.seq
    (.seq (.reg [⟨(some 55), (.mv (.tmp 10)), none⟩, ⟨(some 56), (.fad 0 (.tmp 3)), none⟩, ⟨(some 57), (.ld1 (.tmp 56)), none⟩, ⟨(some 58), (.ar .mul (.const (.int .i64 60)) (.tmp 57)), none⟩, ⟨(some 59), (.ar .add (.tmp 58) (.const (.int .i64 20))), none⟩, ⟨(some 60), (.cmp .lss (.tmp 55) (.tmp 59)), none⟩, ⟨(some 61), (.mv (.tmp 60)), none⟩, ⟨(some 62), (.mv (.tmp 9)), (some (61, true))⟩, ⟨(some 63), (.call 18 [(.tmp 62)]), (some (61, true))⟩, ⟨(some 64), (.nt (.tmp 63)), (some (61, true))⟩, ⟨(some 65), (.pick (.tmp 61) (.tmp 64) (.const (.bool false))), none⟩])
    (.cond (.tmp 65) .skip (.exit 0)))
    (.seq (.block 1
    (.seq (.reg [⟨(some 68), (.mv (.tmp 9)), none⟩, ⟨(some 69), (.mv (.tmp 8)), none⟩, ⟨(some 70), (.call 19 [(.tmp 68), (.tmp 69)]), none⟩])
    (.seq (.draw (.take ⟨(some 71), (.mv (.tmp 10)), none⟩ (.take ⟨(some 72), (.dv .rem (.tmp 71) (.const (.int .i64 5))), none⟩ (.take ⟨(some 73), (.cmp .eql (.tmp 72) (.const (.int .i64 0))), none⟩ (.take ⟨(some 74), (.mv (.tmp 73)), none⟩ (.take ⟨(some 75), (.ldn 3 (.tmp 3)), (some (74, true))⟩ (.take ⟨(some 76), (.mv (.tmp 8)), (some (74, true))⟩ (.alt false ⟨(some 77), (.call 20 [(.tmp 76)]), (some (74, true))⟩ (.alt false ⟨(some 78), (.call 14 [(.tmp 75), (.tmp 77)]), (some (74, true))⟩ (.take ⟨(some 79), (.nt (.tmp 78)), (some (74, true))⟩ (.take ⟨(some 80), (.pick (.tmp 74) (.tmp 79) (.const (.bool false))), none⟩ .done)) .stop) .stop))))))))
    (.cond (.tmp 80)
    (.seq (.reg [⟨(some 6), (.mv (.const (.bool false))), none⟩]) .ret) .skip))))
    (.reg [⟨(some 66), (.mv (.tmp 10)), none⟩, ⟨(some 67), (.ar .add (.tmp 66) (.const (.int .i64 1))), none⟩, ⟨(some 10), (.mv (.tmp 67)), none⟩]))))))
    (.seq (.reg [⟨(some 82), (.mv (.tmp 9)), none⟩, ⟨(some 83), (.call 21 [(.tmp 82)]), none⟩, ⟨(some 81), (.mv (.tmp 83)), none⟩, ⟨(some 84), (.ext 0 (.tmp 81)), none⟩, ⟨(some 85), (.ext 1 (.tmp 81)), none⟩, ⟨(some 11), (.mv (.tmp 84)), none⟩, ⟨(some 12), (.mv (.tmp 85)), none⟩])
    (.seq (.draw (.take ⟨(some 86), (.ldn 3 (.tmp 3)), none⟩ (.take ⟨(some 87), (.mv (.tmp 1)), none⟩ (.take ⟨(some 89), (.ldn 3 (.tmp 3)), none⟩ (.take ⟨(some 90), (.mv (.tmp 8)), none⟩ (.alt false ⟨(some 88), (.call 22 [(.tmp 86), (.tmp 87)]), none⟩ (.alt false ⟨(some 91), (.call 20 [(.tmp 90)]), none⟩ (.alt false ⟨(some 92), (.call 22 [(.tmp 89), (.tmp 91)]), none⟩ (.take ⟨(some 13), (.mv (.tmp 88)), none⟩ (.take ⟨(some 14), (.mv (.tmp 92)), none⟩ .done)) .stop) .stop) .stop))))))
    (.seq (.seq
    (.draw (.take ⟨(some 93), (.mv (.tmp 9)), none⟩ (.alt false ⟨(some 94), (.call 18 [(.tmp 93)]), none⟩ (.take ⟨(some 95), (.nt (.tmp 94)), none⟩ (.take ⟨(some 96), (.mv (.tmp 95)), none⟩ (.take ⟨(some 97), (.mv (.tmp 13)), (some (96, false))⟩ (.take ⟨(some 98), (.len (.tmp 97)), (some (96, false))⟩ (.take ⟨(some 99), (.mv (.tmp 14)), (some (96, false))⟩ (.take ⟨(some 100), (.len (.tmp 99)), (some (96, false))⟩ (.take ⟨(some 101), (.cmp .neq (.tmp 98) (.tmp 100)), (some (96, false))⟩ (.take ⟨(some 102), (.pick (.tmp 96) (.const (.bool true)) (.tmp 101)), none⟩ (.take ⟨(some 103), (.mv (.tmp 102)), none⟩ (.take ⟨(some 104), (.ldn 3 (.tmp 3)), (some (103, false))⟩ (.take ⟨(some 105), (.mv (.tmp 8)), (some (103, false))⟩ (.alt false ⟨(some 106), (.call 20 [(.tmp 105)]), (some (103, false))⟩ (.alt false ⟨(some 107), (.call 14 [(.tmp 104), (.tmp 106)]), (some (103, false))⟩ (.take ⟨(some 108), (.nt (.tmp 107)), (some (103, false))⟩ (.take ⟨(some 109), (.pick (.tmp 103) (.const (.bool true)) (.tmp 108)), none⟩ .done)) .stop) .stop)))))))))))) .stop)))
    (.cond (.tmp 109)
    (.seq (.reg [⟨(some 6), (.mv (.const (.bool false))), none⟩]) .ret) .skip))
    (.seq (.seq
    (.reg [⟨(some 15), (.mv (.const (.int .i64 0))), none⟩])
    (.block 2
    (.loop (.seq
    (.seq (.reg [⟨(some 110), (.mv (.tmp 15)), none⟩, ⟨(some 111), (.mv (.tmp 13)), none⟩, ⟨(some 112), (.len (.tmp 111)), none⟩, ⟨(some 113), (.cmp .lss (.tmp 110) (.tmp 112)), none⟩])
    (.cond (.tmp 113) .skip (.exit 2)))
    (.seq (.block 3
    (.seq (.reg [⟨(some 116), (.mv (.tmp 13)), none⟩, ⟨(some 117), (.mv (.tmp 15)), none⟩, ⟨(some 118), (.iad 2 (.tmp 116) (.tmp 117)), none⟩, ⟨(some 119), (.ldn 2 (.tmp 118)), none⟩, ⟨(some 120), (.mv (.tmp 14)), none⟩, ⟨(some 121), (.mv (.tmp 15)), none⟩, ⟨(some 122), (.iad 2 (.tmp 120) (.tmp 121)), none⟩, ⟨(some 123), (.ldn 2 (.tmp 122)), none⟩, ⟨(some 124), (.aeq true [(0, false), (1, false)] (.tmp 119) (.tmp 123)), none⟩])
    (.cond (.tmp 124)
    (.seq (.reg [⟨(some 6), (.mv (.const (.bool false))), none⟩]) .ret) .skip)))
    (.reg [⟨(some 114), (.mv (.tmp 15)), none⟩, ⟨(some 115), (.ar .add (.tmp 114) (.const (.int .i64 1))), none⟩, ⟨(some 15), (.mv (.tmp 115)), none⟩]))))))
    (.seq (.reg [⟨(some 125), (.ldn 3 (.tmp 3)), none⟩, ⟨(some 126), (.mv (.tmp 1)), none⟩, ⟨(some 127), (.mv (.tmp 7)), none⟩, ⟨(some 128), (.ar .mul (.tmp 127) (.const (.int .i64 64))), none⟩, ⟨(some 129), (.call 23 [(.tmp 125), (.tmp 126), (.tmp 128)]), none⟩, ⟨(some 16), (.mv (.tmp 129)), none⟩])
    (.seq (.seq
    (.reg [⟨(some 130), (.mv (.tmp 7)), none⟩, ⟨(some 131), (.cmp .eql (.tmp 130) (.const (.int .i64 1))), none⟩])
    (.cond (.tmp 131)
    (.reg [⟨(some 132), (.ldn 3 (.tmp 3)), none⟩, ⟨(some 133), (.mv (.tmp 1)), none⟩, ⟨(some 134), (.call 23 [(.tmp 132), (.tmp 133), (.const (.int .i64 1))]), none⟩, ⟨(some 16), (.mv (.tmp 134)), none⟩]) .skip))
    (.seq (.reg [⟨(some 135), (.mv (.tmp 12)), none⟩, ⟨(some 136), (.mv (.tmp 16)), none⟩, ⟨(some 137), (.beq false (.tmp 135) (.tmp 136)), none⟩, ⟨(some 6), (.mv (.tmp 137)), none⟩]) .ret)))))))))))))))⟩ := by kernel_rfl

end Go.Proofs.Ytfopnendmcpglaa
