/-
  The compact code of functions of this seat, as translated from the model: each translation holds by reckoning. Conditions: none.
-/
import Derived.Test.YtofcocbgamdghaaGreatCode
set_option maxRecDepth 100000
namespace Go.Proofs.YtofcocbgamdghaaGreat
open Go Go.Ev

/-- allotment/allotmentlaw16.GiveTakes -/
theorem tr3 : trF Tryz.prog pures Tryz.f3 = some
  ⟨172, [(.t 6)],
    (.seq (.reg [⟨(some 6), (.mv (.const (.bool false))), none⟩])
    (.seq (.seq
    (.reg [⟨(some 22), (.call 4 []), none⟩, ⟨(some 23), (.nt (.tmp 22)), none⟩])
    (.cond (.tmp 23)
    (.seq (.reg [⟨(some 6), (.mv (.const (.bool false))), none⟩]) .ret) .skip))
    (.seq (.reg [⟨(some 24), (.mv (.tmp 0)), none⟩, ⟨(some 25), (.cv .i64 (.tmp 24)), none⟩, ⟨(some 26), (.dv .rem (.tmp 25) (.const (.int .i64 4))), none⟩, ⟨(some 27), (.ar .add (.const (.int .i64 1)) (.tmp 26)), none⟩, ⟨(some 7), (.mv (.tmp 27)), none⟩])
    (.seq (.reg [⟨(some 28), (.mv (.tmp 7)), none⟩, ⟨(some 29), (.bld #[(.int .i64 0), (.int .i64 0), (.int .i64 0)] [(0, (1, (.tmp 28))), (1, (1, (.const (.int .i64 2))))]), none⟩, ⟨(some 8), (.alc 26 (.agg #[(.int .i64 0), (.int .i64 0), (.int .i64 0)])), none⟩, ⟨none, (.stn 3 (.tmp 8) (.tmp 29)), none⟩])
    (.seq (.reg [⟨(some 30), (.ldn 3 (.tmp 8)), none⟩, ⟨(some 31), (.pcall 5 [(.tmp 30)]), none⟩, ⟨(some 32), (.mks 29 8 (.int .u64 0) (.tmp 31) (.tmp 31)), none⟩, ⟨(some 9), (.mv (.tmp 32)), none⟩])
    (.seq (.reg [⟨(some 33), (.mv (.tmp 9)), none⟩, ⟨(some 34), (.ldn 3 (.tmp 8)), none⟩, ⟨(some 35), (.pcall 7 [(.tmp 34), (.const (.int .i64 0))]), none⟩, ⟨(some 36), (.mv (.tmp 7)), none⟩, ⟨(some 37), (.bld #[(.int .i64 0), (.int .i64 0), (.int .i64 0)] [(0, (1, (.const (.int .i64 3)))), (1, (1, (.tmp 36)))]), none⟩, ⟨(some 38), (.pcall 6 [(.tmp 37)]), none⟩, ⟨(some 39), (.iad 1 (.tmp 33) (.tmp 35)), none⟩, ⟨none, (.st1 (.tmp 39) (.tmp 38)), none⟩])
    (.seq (.seq
    (.reg [⟨(some 10), (.mv (.const (.int .i64 1))), none⟩])
    (.block 0
    (.loop (.seq
    (.seq (.reg [⟨(some 40), (.mv (.tmp 10)), none⟩, ⟨(some 41), (.mv (.tmp 7)), none⟩, ⟨(some 42), (.cmp .lss (.tmp 40) (.tmp 41)), none⟩])
    (.cond (.tmp 42) .skip (.exit 0)))
    (.seq (.block 1
    (.reg [⟨(some 45), (.mv (.tmp 9)), none⟩, ⟨(some 46), (.ldn 3 (.tmp 8)), none⟩, ⟨(some 47), (.mv (.tmp 10)), none⟩, ⟨(some 48), (.pcall 7 [(.tmp 46), (.tmp 47)]), none⟩, ⟨(some 49), (.bld #[(.int .i64 0), (.int .i64 0), (.int .i64 0)] [(0, (1, (.const (.int .i64 4))))]), none⟩, ⟨(some 50), (.pcall 6 [(.tmp 49)]), none⟩, ⟨(some 51), (.iad 1 (.tmp 45) (.tmp 48)), none⟩, ⟨none, (.st1 (.tmp 51) (.tmp 50)), none⟩]))
    (.reg [⟨(some 43), (.mv (.tmp 10)), none⟩, ⟨(some 44), (.ar .add (.tmp 43) (.const (.int .i64 1))), none⟩, ⟨(some 10), (.mv (.tmp 44)), none⟩]))))))
    (.seq (.reg [⟨(some 52), (.mv (.tmp 9)), none⟩, ⟨(some 53), (.call 8 [(.tmp 52)]), none⟩, ⟨(some 11), (.mv (.tmp 53)), none⟩])
    (.seq (.reg [⟨(some 54), (.ldn 3 (.tmp 8)), none⟩, ⟨(some 55), (.call 9 [(.tmp 54), (.const (.int .i64 0)), (.const (.int .i64 0))]), none⟩, ⟨(some 12), (.mv (.tmp 55)), none⟩])
    (.seq (.reg [⟨(some 56), (.ldn 3 (.tmp 8)), none⟩, ⟨(some 57), (.mv (.tmp 1)), none⟩, ⟨(some 58), (.cv .i64 (.tmp 57)), none⟩, ⟨(some 59), (.dv .rem (.tmp 58) (.const (.int .i64 512))), none⟩, ⟨(some 60), (.ar .add (.const (.int .i64 1)) (.tmp 59)), none⟩, ⟨(some 61), (.call 10 [(.tmp 56), (.const (.int .i64 1)), (.tmp 60), (.const (.int .i64 0))]), none⟩, ⟨(some 13), (.mv (.tmp 61)), none⟩])
    (.seq (.seq
    (.reg [⟨(some 62), (.mv (.tmp 2)), none⟩, ⟨(some 63), (.len (.tmp 62)), none⟩, ⟨(some 64), (.cmp .gtr (.tmp 63) (.const (.int .i64 2000))), none⟩])
    (.cond (.tmp 64)
    (.seq (.reg [⟨(some 6), (.mv (.const (.bool true))), none⟩]) .ret) .skip))
    (.seq (.seq
    (.reg [⟨(some 65), (.mv (.tmp 11)), none⟩, ⟨(some 66), (.pnil false (.tmp 65)), none⟩, ⟨(some 67), (.mv (.tmp 66)), none⟩, ⟨(some 68), (.mv (.tmp 12)), (some (67, false))⟩, ⟨(some 69), (.pnil false (.tmp 68)), (some (67, false))⟩, ⟨(some 70), (.pick (.tmp 67) (.const (.bool true)) (.tmp 69)), none⟩, ⟨(some 71), (.mv (.tmp 70)), none⟩, ⟨(some 72), (.mv (.tmp 13)), (some (71, false))⟩, ⟨(some 73), (.pnil false (.tmp 72)), (some (71, false))⟩, ⟨(some 74), (.pick (.tmp 71) (.const (.bool true)) (.tmp 73)), none⟩])
    (.cond (.tmp 74)
    (.seq (.reg [⟨(some 6), (.mv (.const (.bool false))), none⟩]) .ret) .skip))
    (.seq (.seq
    (.reg [⟨(some 14), (.mv (.const (.int .i64 0))), none⟩])
    (.block 2
    (.loop (.seq
    (.seq (.reg [⟨(some 75), (.mv (.tmp 14)), none⟩, ⟨(some 76), (.mv (.tmp 2)), none⟩, ⟨(some 77), (.len (.tmp 76)), none⟩, ⟨(some 78), (.cmp .lss (.tmp 75) (.tmp 77)), none⟩])
    (.cond (.tmp 78) .skip (.exit 2)))
    (.seq (.block 3
    (.seq (.seq
    (.reg [⟨(some 81), (.mv (.tmp 2)), none⟩, ⟨(some 82), (.mv (.tmp 14)), none⟩, ⟨(some 83), (.iad 1 (.tmp 81) (.tmp 82)), none⟩, ⟨(some 84), (.ld1 (.tmp 83)), none⟩])
    (.cond (.tmp 84)
    (.reg [⟨(some 85), (.mv (.tmp 13)), none⟩, ⟨(some 86), (.mv (.tmp 11)), none⟩, ⟨(some 87), (.call 11 [(.tmp 85), (.tmp 86)]), none⟩])
    (.reg [⟨(some 88), (.mv (.tmp 12)), none⟩, ⟨(some 89), (.mv (.tmp 11)), none⟩, ⟨(some 90), (.call 12 [(.tmp 88), (.tmp 89)]), none⟩])))
    (.seq (.reg [⟨(some 92), (.mv (.tmp 13)), none⟩, ⟨(some 93), (.call 13 [(.tmp 92)]), none⟩, ⟨(some 91), (.mv (.tmp 93)), none⟩, ⟨(some 94), (.ext 0 (.tmp 91)), none⟩, ⟨(some 95), (.ext 1 (.tmp 91)), none⟩, ⟨(some 15), (.alc 42 (.agg #[(.bool false), (.int .i64 0), (.int .i64 0), (.int .i64 0), (.int .i64 0)])), none⟩, ⟨none, (.stn 5 (.tmp 15) (.tmp 94)), none⟩, ⟨(some 16), (.mv (.tmp 95)), none⟩])
    (.seq (.draw (.take ⟨(some 96), (.mv (.tmp 16)), none⟩ (.take ⟨(some 97), (.mv (.tmp 96)), none⟩ (.take ⟨(some 98), (.mv (.tmp 12)), (some (97, true))⟩ (.alt false ⟨(some 99), (.call 14 [(.tmp 98)]), (some (97, true))⟩ (.take ⟨(some 100), (.nt (.tmp 99)), (some (97, true))⟩ (.take ⟨(some 101), (.pick (.tmp 97) (.tmp 100) (.const (.bool false))), none⟩ (.take ⟨(some 102), (.mv (.tmp 101)), none⟩ (.take ⟨(some 103), (.ldn 3 (.tmp 8)), (some (102, false))⟩ (.take ⟨(some 104), (.mv (.tmp 11)), (some (102, false))⟩ (.alt false ⟨(some 105), (.call 16 [(.tmp 104)]), (some (102, false))⟩ (.alt false ⟨(some 106), (.call 15 [(.tmp 103), (.tmp 105)]), (some (102, false))⟩ (.take ⟨(some 107), (.nt (.tmp 106)), (some (102, false))⟩ (.take ⟨(some 108), (.pick (.tmp 102) (.const (.bool true)) (.tmp 107)), none⟩ .done)) .stop) .stop)))))) .stop)))))
    (.cond (.tmp 108)
    (.seq (.reg [⟨(some 6), (.mv (.const (.bool false))), none⟩]) .ret) .skip)))))
    (.reg [⟨(some 79), (.mv (.tmp 14)), none⟩, ⟨(some 80), (.ar .add (.tmp 79) (.const (.int .i64 1))), none⟩, ⟨(some 14), (.mv (.tmp 80)), none⟩]))))))
    (.seq (.seq
    (.reg [⟨(some 17), (.mv (.const (.int .i64 0))), none⟩])
    (.block 4
    (.loop (.seq
    (.seq (.reg [⟨(some 109), (.mv (.tmp 17)), none⟩, ⟨(some 110), (.mv (.tmp 7)), none⟩, ⟨(some 111), (.ar .mul (.const (.int .i64 80)) (.tmp 110)), none⟩, ⟨(some 112), (.ar .add (.tmp 111) (.const (.int .i64 90))), none⟩, ⟨(some 113), (.cmp .lss (.tmp 109) (.tmp 112)), none⟩])
    (.cond (.tmp 113) .skip (.exit 4)))
    (.seq (.block 5
    (.seq (.reg [⟨(some 116), (.mv (.tmp 12)), none⟩, ⟨(some 117), (.mv (.tmp 11)), none⟩, ⟨(some 118), (.call 12 [(.tmp 116), (.tmp 117)]), none⟩])
    (.reg [⟨(some 119), (.mv (.tmp 13)), none⟩, ⟨(some 120), (.mv (.tmp 11)), none⟩, ⟨(some 121), (.call 11 [(.tmp 119), (.tmp 120)]), none⟩])))
    (.reg [⟨(some 114), (.mv (.tmp 17)), none⟩, ⟨(some 115), (.ar .add (.tmp 114) (.const (.int .i64 1))), none⟩, ⟨(some 17), (.mv (.tmp 115)), none⟩]))))))
    (.seq (.reg [⟨(some 123), (.mv (.tmp 13)), none⟩, ⟨(some 124), (.call 13 [(.tmp 123)]), none⟩, ⟨(some 122), (.mv (.tmp 124)), none⟩, ⟨(some 125), (.ext 0 (.tmp 122)), none⟩, ⟨(some 126), (.ext 1 (.tmp 122)), none⟩, ⟨(some 18), (.alc 42 (.agg #[(.bool false), (.int .i64 0), (.int .i64 0), (.int .i64 0), (.int .i64 0)])), none⟩, ⟨none, (.stn 5 (.tmp 18) (.tmp 125)), none⟩, ⟨(some 19), (.mv (.tmp 126)), none⟩])
    (.seq (.draw (.take ⟨(some 127), (.ldn 3 (.tmp 8)), none⟩ (.take ⟨(some 128), (.mv (.tmp 11)), none⟩ (.alt false ⟨(some 129), (.call 16 [(.tmp 128)]), none⟩ (.alt false ⟨(some 130), (.call 17 [(.tmp 127), (.tmp 129)]), none⟩ (.alt false ⟨(some 20), (.alc 48 (.agg #[(.int .i64 0), (.int .i64 0), (.int .i64 0), (.int .i64 0)])), none⟩ (.alt true ⟨none, (.stn 4 (.tmp 20) (.tmp 130)), none⟩ .done .stop) .stop) (.alt false ⟨(some 20), (.alc 48 (.agg #[(.int .i64 0), (.int .i64 0), (.int .i64 0), (.int .i64 0)])), none⟩ (.alt false ⟨(some 130), (.call 17 [(.tmp 127), (.tmp 129)]), none⟩ (.alt true ⟨none, (.stn 4 (.tmp 20) (.tmp 130)), none⟩ .done .stop) .stop) .stop)) (.alt false ⟨(some 20), (.alc 48 (.agg #[(.int .i64 0), (.int .i64 0), (.int .i64 0), (.int .i64 0)])), none⟩ (.alt false ⟨(some 129), (.call 16 [(.tmp 128)]), none⟩ (.alt false ⟨(some 130), (.call 17 [(.tmp 127), (.tmp 129)]), none⟩ (.alt true ⟨none, (.stn 4 (.tmp 20) (.tmp 130)), none⟩ .done .stop) .stop) .stop) .stop)))))
    (.seq (.seq
    (.draw (.take ⟨(some 131), (.mv (.tmp 12)), none⟩ (.alt false ⟨(some 132), (.call 18 [(.tmp 131)]), none⟩ (.take ⟨(some 133), (.nt (.tmp 132)), none⟩ (.take ⟨(some 134), (.mv (.tmp 133)), none⟩ (.take ⟨(some 135), (.mv (.tmp 12)), (some (134, false))⟩ (.alt false ⟨(some 136), (.call 14 [(.tmp 135)]), (some (134, false))⟩ (.take ⟨(some 137), (.nt (.tmp 136)), (some (134, false))⟩ (.take ⟨(some 138), (.pick (.tmp 134) (.const (.bool true)) (.tmp 137)), none⟩ (.take ⟨(some 139), (.mv (.tmp 138)), none⟩ (.take ⟨(some 140), (.mv (.tmp 13)), (some (139, false))⟩ (.alt false ⟨(some 141), (.call 19 [(.tmp 140)]), (some (139, false))⟩ (.take ⟨(some 142), (.nt (.tmp 141)), (some (139, false))⟩ (.take ⟨(some 143), (.pick (.tmp 139) (.const (.bool true)) (.tmp 142)), none⟩ (.take ⟨(some 144), (.mv (.tmp 143)), none⟩ (.take ⟨(some 145), (.ldn 3 (.tmp 8)), (some (144, false))⟩ (.take ⟨(some 146), (.mv (.tmp 11)), (some (144, false))⟩ (.alt false ⟨(some 147), (.call 16 [(.tmp 146)]), (some (144, false))⟩ (.alt false ⟨(some 148), (.call 15 [(.tmp 145), (.tmp 147)]), (some (144, false))⟩ (.take ⟨(some 149), (.nt (.tmp 148)), (some (144, false))⟩ (.take ⟨(some 150), (.pick (.tmp 144) (.const (.bool true)) (.tmp 149)), none⟩ (.take ⟨(some 151), (.mv (.tmp 150)), none⟩ (.take ⟨(some 152), (.fad 1 (.tmp 20)), (some (151, false))⟩ (.take ⟨(some 153), (.ld1 (.tmp 152)), (some (151, false))⟩ (.take ⟨(some 154), (.cmp .neq (.tmp 153) (.const (.int .i64 0))), (some (151, false))⟩ (.take ⟨(some 155), (.pick (.tmp 151) (.const (.bool true)) (.tmp 154)), none⟩ .done))))))) .stop) .stop)))))) .stop))))) .stop)))) .stop)))
    (.cond (.tmp 155)
    (.seq (.reg [⟨(some 6), (.mv (.const (.bool false))), none⟩]) .ret) .skip))
    (.seq (.reg [⟨(some 21), (.mv (.const (.int .i64 0))), none⟩])
    (.seq (.seq
    (.reg [⟨(some 156), (.mv (.tmp 19)), none⟩])
    (.cond (.tmp 156)
    (.reg [⟨(some 157), (.ldn 5 (.tmp 18)), none⟩, ⟨(some 158), (.call 20 [(.tmp 157)]), none⟩, ⟨(some 21), (.mv (.tmp 158)), none⟩]) .skip))
    (.seq (.reg [⟨(some 159), (.fad 3 (.tmp 20)), none⟩, ⟨(some 160), (.ld1 (.tmp 159)), none⟩, ⟨(some 161), (.mv (.tmp 21)), none⟩, ⟨(some 162), (.cmp .eql (.tmp 160) (.tmp 161)), none⟩, ⟨(some 163), (.mv (.tmp 162)), none⟩, ⟨(some 164), (.fad 0 (.tmp 20)), (some (163, true))⟩, ⟨(some 165), (.ld1 (.tmp 164)), (some (163, true))⟩, ⟨(some 166), (.mv (.tmp 7)), (some (163, true))⟩, ⟨(some 167), (.ar .mul (.tmp 166) (.const (.int .i64 64))), (some (163, true))⟩, ⟨(some 168), (.mv (.tmp 21)), (some (163, true))⟩, ⟨(some 169), (.ar .sub (.tmp 167) (.tmp 168)), (some (163, true))⟩, ⟨(some 170), (.cmp .eql (.tmp 165) (.tmp 169)), (some (163, true))⟩, ⟨(some 171), (.pick (.tmp 163) (.tmp 170) (.const (.bool false))), none⟩, ⟨(some 6), (.mv (.tmp 171)), none⟩]) .ret))))))))))))))))))))⟩ := by kernel_rfl

/-- allotment/allotmentlaw16.awake -/
theorem tr4 : trF Tryz.prog pures Tryz.f4 = some
  ⟨69, [(.t 0)],
    (.seq (.reg [⟨(some 0), (.mv (.const (.bool false))), none⟩])
    (.seq (.reg [⟨(some 7), (.bld #[(.int .i64 0), (.int .i64 0), (.int .i64 0)] [(0, (1, (.const (.int .i64 2)))), (1, (1, (.const (.int .i64 1))))]), none⟩, ⟨(some 1), (.alc 26 (.agg #[(.int .i64 0), (.int .i64 0), (.int .i64 0)])), none⟩, ⟨none, (.stn 3 (.tmp 1) (.tmp 7)), none⟩])
    (.seq (.reg [⟨(some 8), (.ldn 3 (.tmp 1)), none⟩, ⟨(some 9), (.pcall 5 [(.tmp 8)]), none⟩, ⟨(some 10), (.mks 29 8 (.int .u64 0) (.tmp 9) (.tmp 9)), none⟩, ⟨(some 2), (.mv (.tmp 10)), none⟩])
    (.seq (.reg [⟨(some 11), (.mv (.tmp 2)), none⟩, ⟨(some 12), (.mv (.tmp 2)), none⟩, ⟨(some 13), (.bld #[(.int .i64 0), (.int .i64 0), (.int .i64 0)] [(0, (1, (.const (.int .i64 3)))), (1, (1, (.const (.int .i64 2))))]), none⟩, ⟨(some 14), (.pcall 6 [(.tmp 13)]), none⟩, ⟨(some 15), (.bld #[(.int .i64 0), (.int .i64 0), (.int .i64 0)] [(0, (1, (.const (.int .i64 4))))]), none⟩, ⟨(some 16), (.pcall 6 [(.tmp 15)]), none⟩, ⟨(some 17), (.iad 1 (.tmp 11) (.const (.int .i64 1))), none⟩, ⟨none, (.st1 (.tmp 17) (.tmp 14)), none⟩, ⟨(some 18), (.iad 1 (.tmp 12) (.const (.int .i64 2))), none⟩, ⟨none, (.st1 (.tmp 18) (.tmp 16)), none⟩])
    (.seq (.reg [⟨(some 19), (.mv (.tmp 2)), none⟩, ⟨(some 20), (.call 8 [(.tmp 19)]), none⟩, ⟨(some 3), (.mv (.tmp 20)), none⟩])
    (.seq (.reg [⟨(some 21), (.ldn 3 (.tmp 1)), none⟩, ⟨(some 22), (.call 9 [(.tmp 21), (.const (.int .i64 0)), (.const (.int .i64 0))]), none⟩, ⟨(some 4), (.mv (.tmp 22)), none⟩])
    (.seq (.seq
    (.reg [⟨(some 23), (.mv (.tmp 3)), none⟩, ⟨(some 24), (.pnil false (.tmp 23)), none⟩, ⟨(some 25), (.mv (.tmp 24)), none⟩, ⟨(some 26), (.mv (.tmp 4)), (some (25, false))⟩, ⟨(some 27), (.pnil false (.tmp 26)), (some (25, false))⟩, ⟨(some 28), (.pick (.tmp 25) (.const (.bool true)) (.tmp 27)), none⟩])
    (.cond (.tmp 28)
    (.seq (.reg [⟨(some 0), (.mv (.const (.bool false))), none⟩]) .ret) .skip))
    (.seq (.reg [⟨(some 29), (.mv (.tmp 4)), none⟩, ⟨(some 30), (.mv (.tmp 3)), none⟩, ⟨(some 31), (.call 12 [(.tmp 29), (.tmp 30)]), none⟩])
    (.seq (.reg [⟨(some 32), (.mv (.tmp 4)), none⟩, ⟨(some 33), (.call 14 [(.tmp 32)]), none⟩, ⟨(some 5), (.mv (.tmp 33)), none⟩])
    (.seq (.reg [⟨(some 34), (.mv (.tmp 4)), none⟩, ⟨(some 35), (.mv (.tmp 3)), none⟩, ⟨(some 36), (.call 12 [(.tmp 34), (.tmp 35)]), none⟩])
    (.seq (.reg [⟨(some 37), (.mv (.tmp 4)), none⟩, ⟨(some 38), (.call 14 [(.tmp 37)]), none⟩, ⟨(some 6), (.mv (.tmp 38)), none⟩])
    (.seq (.reg [⟨(some 39), (.mv (.tmp 4)), none⟩, ⟨(some 40), (.mv (.tmp 3)), none⟩, ⟨(some 41), (.call 12 [(.tmp 39), (.tmp 40)]), none⟩])
    (.seq (.reg [⟨(some 42), (.mv (.tmp 4)), none⟩, ⟨(some 43), (.mv (.tmp 3)), none⟩, ⟨(some 44), (.call 12 [(.tmp 42), (.tmp 43)]), none⟩])
    (.seq (.reg [⟨(some 45), (.mv (.tmp 5)), none⟩, ⟨(some 46), (.nt (.tmp 45)), none⟩, ⟨(some 47), (.mv (.tmp 46)), none⟩, ⟨(some 48), (.mv (.tmp 6)), (some (47, true))⟩, ⟨(some 49), (.pick (.tmp 47) (.tmp 48) (.const (.bool false))), none⟩, ⟨(some 50), (.mv (.tmp 49)), none⟩, ⟨(some 51), (.mv (.tmp 4)), (some (50, true))⟩, ⟨(some 52), (.call 18 [(.tmp 51)]), (some (50, true))⟩, ⟨(some 53), (.pick (.tmp 50) (.tmp 52) (.const (.bool false))), none⟩, ⟨(some 54), (.mv (.tmp 53)), none⟩, ⟨(some 55), (.mv (.tmp 3)), (some (54, true))⟩, ⟨(some 56), (.call 21 [(.tmp 55)]), (some (54, true))⟩, ⟨(some 57), (.cmp .eql (.tmp 56) (.const (.int .i64 4))), (some (54, true))⟩, ⟨(some 58), (.pick (.tmp 54) (.tmp 57) (.const (.bool false))), none⟩, ⟨(some 59), (.mv (.tmp 58)), none⟩, ⟨(some 60), (.mv (.tmp 3)), (some (59, true))⟩, ⟨(some 61), (.call 22 [(.tmp 60), (.const (.int .i64 1))]), (some (59, true))⟩, ⟨(some 62), (.cmp .eql (.tmp 61) (.const (.int .u64 0))), (some (59, true))⟩, ⟨(some 63), (.pick (.tmp 59) (.tmp 62) (.const (.bool false))), none⟩, ⟨(some 64), (.mv (.tmp 63)), none⟩, ⟨(some 65), (.mv (.tmp 3)), (some (64, true))⟩, ⟨(some 66), (.call 22 [(.tmp 65), (.const (.int .i64 2))]), (some (64, true))⟩, ⟨(some 67), (.cmp .eql (.tmp 66) (.const (.int .u64 0))), (some (64, true))⟩, ⟨(some 68), (.pick (.tmp 64) (.tmp 67) (.const (.bool false))), none⟩, ⟨(some 0), (.mv (.tmp 68)), none⟩]) .ret))))))))))))))⟩ := by kernel_rfl

end Go.Proofs.YtofcocbgamdghaaGreat
