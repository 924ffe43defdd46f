/-
  The compact code of functions of this seat, as translated from the model: each translation holds by reckoning. Conditions: none.
-/
import Derived.Test.YtibeokgmfhfgjaaGreatCode
set_option maxRecDepth 100000
namespace Go.Proofs.YtibeokgmfhfgjaaGreat
open Go Go.Ev

/-- allotment/allotmentlaw17.RenewSelf -/
theorem tr3 : trF Tryz.prog pures Tryz.f3 = some
  ⟨194, [(.t 4)],
    (.seq (.reg [⟨(some 4), (.mv (.const (.bool false))), none⟩])
    (.seq (.seq
    (.reg [⟨(some 23), (.call 4 []), none⟩, ⟨(some 24), (.nt (.tmp 23)), none⟩])
    (.cond (.tmp 24)
    (.seq (.reg [⟨(some 4), (.mv (.const (.bool false))), none⟩]) .ret) .skip))
    (.seq (.seq
    (.reg [⟨(some 25), (.mv (.tmp 1)), none⟩, ⟨(some 26), (.len (.tmp 25)), none⟩, ⟨(some 27), (.cmp .gtr (.tmp 26) (.const (.int .i64 12))), none⟩])
    (.cond (.tmp 27)
    (.seq (.reg [⟨(some 4), (.mv (.const (.bool true))), none⟩]) .ret) .skip))
    (.seq (.reg [⟨(some 28), (.mv (.tmp 0)), none⟩, ⟨(some 29), (.cv .i64 (.tmp 28)), none⟩, ⟨(some 30), (.dv .rem (.tmp 29) (.const (.int .i64 8))), none⟩, ⟨(some 31), (.ar .add (.const (.int .i64 17)) (.tmp 30)), none⟩, ⟨(some 32), (.bld #[(.int .i64 0), (.int .i64 0), (.int .i64 0)] [(0, (1, (.tmp 31))), (1, (1, (.const (.int .i64 1))))]), none⟩, ⟨(some 5), (.alc 25 (.agg #[(.int .i64 0), (.int .i64 0), (.int .i64 0)])), none⟩, ⟨none, (.stn 3 (.tmp 5) (.tmp 32)), none⟩])
    (.seq (.reg [⟨(some 33), (.ldn 3 (.tmp 5)), none⟩, ⟨(some 34), (.pcall 6 [(.tmp 33)]), none⟩, ⟨(some 35), (.mks 53 8 (.int .u64 0) (.tmp 34) (.tmp 34)), none⟩, ⟨(some 36), (.call 5 [(.tmp 35)]), none⟩, ⟨(some 6), (.mv (.tmp 36)), none⟩])
    (.seq (.seq
    (.reg [⟨(some 37), (.mv (.tmp 6)), none⟩, ⟨(some 38), (.pnil false (.tmp 37)), none⟩])
    (.cond (.tmp 38)
    (.seq (.reg [⟨(some 4), (.mv (.const (.bool false))), none⟩]) .ret) .skip))
    (.seq (.reg [⟨(some 39), (.ldn 3 (.tmp 5)), none⟩, ⟨(some 40), (.call 7 [(.tmp 39), (.const (.int .i64 0)), (.const (.int .i64 8)), (.const (.int .i64 0))]), none⟩, ⟨(some 7), (.mv (.tmp 40)), none⟩])
    (.seq (.seq
    (.reg [⟨(some 8), (.mv (.const (.int .i64 0))), none⟩])
    (.block 0
    (.loop (.seq
    (.seq (.reg [⟨(some 41), (.mv (.tmp 8)), none⟩, ⟨(some 42), (.cmp .lss (.tmp 41) (.const (.int .i64 200))), none⟩, ⟨(some 43), (.mv (.tmp 42)), none⟩, ⟨(some 44), (.mv (.tmp 7)), (some (43, true))⟩, ⟨(some 45), (.call 8 [(.tmp 44)]), (some (43, true))⟩, ⟨(some 46), (.nt (.tmp 45)), (some (43, true))⟩, ⟨(some 47), (.pick (.tmp 43) (.tmp 46) (.const (.bool false))), none⟩])
    (.cond (.tmp 47) .skip (.exit 0)))
    (.seq (.block 1
    (.reg [⟨(some 50), (.mv (.tmp 7)), none⟩, ⟨(some 51), (.mv (.tmp 6)), none⟩, ⟨(some 52), (.call 9 [(.tmp 50), (.tmp 51)]), none⟩]))
    (.reg [⟨(some 48), (.mv (.tmp 8)), none⟩, ⟨(some 49), (.ar .add (.tmp 48) (.const (.int .i64 1))), none⟩, ⟨(some 8), (.mv (.tmp 49)), none⟩]))))))
    (.seq (.reg [⟨(some 54), (.mv (.tmp 7)), none⟩, ⟨(some 55), (.call 10 [(.tmp 54)]), none⟩, ⟨(some 53), (.mv (.tmp 55)), none⟩, ⟨(some 56), (.ext 0 (.tmp 53)), none⟩, ⟨(some 57), (.ext 1 (.tmp 53)), none⟩, ⟨(some 9), (.alc 34 (.agg #[(.bool false), (.int .i64 0), (.int .i64 0), (.int .i64 0), (.int .i64 0)])), none⟩, ⟨none, (.stn 5 (.tmp 9) (.tmp 56)), none⟩, ⟨(some 10), (.mv (.tmp 57)), none⟩])
    (.seq (.reg [⟨(some 58), (.ldn 3 (.tmp 5)), none⟩, ⟨(some 59), (.ldn 5 (.tmp 9)), none⟩, ⟨(some 60), (.call 11 [(.tmp 58), (.const (.int .i64 0)), (.tmp 59)]), none⟩, ⟨(some 11), (.mv (.tmp 60)), none⟩])
    (.seq (.seq
    (.reg [⟨(some 61), (.mv (.tmp 10)), none⟩, ⟨(some 62), (.nt (.tmp 61)), none⟩, ⟨(some 63), (.mv (.tmp 62)), none⟩, ⟨(some 64), (.mv (.tmp 11)), (some (63, false))⟩, ⟨(some 65), (.pnil false (.tmp 64)), (some (63, false))⟩, ⟨(some 66), (.pick (.tmp 63) (.const (.bool true)) (.tmp 65)), none⟩])
    (.cond (.tmp 66)
    (.seq (.reg [⟨(some 4), (.mv (.const (.bool false))), none⟩]) .ret) .skip))
    (.seq (.reg [⟨(some 67), (.mv (.tmp 11)), none⟩, ⟨(some 68), (.mv (.tmp 6)), none⟩, ⟨(some 69), (.call 12 [(.tmp 67), (.tmp 68)]), none⟩])
    (.seq (.draw (.take ⟨(some 70), (.ldn 5 (.tmp 9)), none⟩ (.take ⟨(some 72), (.ldn 5 (.tmp 9)), none⟩ (.alt false ⟨(some 71), (.call 13 [(.tmp 70)]), none⟩ (.alt false ⟨(some 73), (.call 14 [(.tmp 72)]), none⟩ (.take ⟨(some 12), (.mv (.tmp 71)), none⟩ (.take ⟨(some 13), (.mv (.tmp 73)), none⟩ .done)) .stop) .stop))))
    (.seq (.seq
    (.reg [⟨(some 14), (.mv (.const (.int .i64 0))), none⟩])
    (.block 2
    (.loop (.seq
    (.seq (.reg [⟨(some 74), (.mv (.tmp 14)), none⟩, ⟨(some 75), (.mv (.tmp 1)), none⟩, ⟨(some 76), (.len (.tmp 75)), none⟩, ⟨(some 77), (.cmp .lss (.tmp 74) (.tmp 76)), none⟩])
    (.cond (.tmp 77) .skip (.exit 2)))
    (.seq (.block 3
    (.seq (.reg [⟨(some 80), (.mv (.tmp 1)), none⟩, ⟨(some 81), (.mv (.tmp 14)), none⟩, ⟨(some 82), (.iad 1 (.tmp 80) (.tmp 81)), none⟩, ⟨(some 83), (.ld1 (.tmp 82)), none⟩, ⟨(some 84), (.cv .i64 (.tmp 83)), none⟩, ⟨(some 85), (.dv .rem (.tmp 84) (.const (.int .i64 256))), none⟩, ⟨(some 86), (.ar .add (.const (.int .i64 1)) (.tmp 85)), none⟩, ⟨(some 15), (.mv (.tmp 86)), none⟩])
    (.seq (.draw (.take ⟨(some 87), (.ldn 3 (.tmp 5)), none⟩ (.take ⟨(some 88), (.mv (.tmp 12)), none⟩ (.take ⟨(some 89), (.mv (.tmp 15)), none⟩ (.take ⟨(some 90), (.mv (.tmp 14)), none⟩ (.take ⟨(some 91), (.fad 0 (.tmp 5)), none⟩ (.take ⟨(some 92), (.ld1 (.tmp 91)), none⟩ (.take ⟨(some 93), (.dv .rem (.tmp 90) (.tmp 92)), none⟩ (.alt false ⟨(some 94), (.call 15 [(.tmp 87), (.const (.int .i64 0)), (.tmp 88), (.tmp 89), (.tmp 93)]), none⟩ (.take ⟨(some 16), (.mv (.tmp 94)), none⟩ .done) .stop)))))))))
    (.seq (.seq
    (.reg [⟨(some 95), (.mv (.tmp 16)), none⟩, ⟨(some 96), (.pnil false (.tmp 95)), none⟩])
    (.cond (.tmp 96)
    (.seq (.reg [⟨(some 4), (.mv (.const (.bool false))), none⟩]) .ret) .skip))
    (.seq (.seq
    (.reg [⟨(some 17), (.mv (.const (.int .i64 0))), none⟩])
    (.block 4
    (.loop (.seq
    (.seq (.reg [⟨(some 97), (.mv (.tmp 17)), none⟩, ⟨(some 98), (.fad 2 (.tmp 5)), none⟩, ⟨(some 99), (.ld1 (.tmp 98)), none⟩, ⟨(some 100), (.ar .mul (.const (.int .i64 2)) (.tmp 99)), none⟩, ⟨(some 101), (.fad 0 (.tmp 5)), none⟩, ⟨(some 102), (.ld1 (.tmp 101)), none⟩, ⟨(some 103), (.ar .mul (.const (.int .i64 80)) (.tmp 102)), none⟩, ⟨(some 104), (.ar .add (.tmp 100) (.tmp 103)), none⟩, ⟨(some 105), (.ar .add (.tmp 104) (.const (.int .i64 130))), none⟩, ⟨(some 106), (.cmp .lss (.tmp 97) (.tmp 105)), none⟩, ⟨(some 107), (.mv (.tmp 106)), none⟩, ⟨(some 108), (.mv (.tmp 16)), (some (107, true))⟩, ⟨(some 109), (.call 16 [(.tmp 108)]), (some (107, true))⟩, ⟨(some 110), (.nt (.tmp 109)), (some (107, true))⟩, ⟨(some 111), (.pick (.tmp 107) (.tmp 110) (.const (.bool false))), none⟩])
    (.cond (.tmp 111) .skip (.exit 4)))
    (.seq (.block 5
    (.reg [⟨(some 114), (.mv (.tmp 16)), none⟩, ⟨(some 115), (.mv (.tmp 6)), none⟩, ⟨(some 116), (.call 17 [(.tmp 114), (.tmp 115)]), none⟩]))
    (.reg [⟨(some 112), (.mv (.tmp 17)), none⟩, ⟨(some 113), (.ar .add (.tmp 112) (.const (.int .i64 1))), none⟩, ⟨(some 17), (.mv (.tmp 113)), none⟩]))))))
    (.seq (.reg [⟨(some 118), (.mv (.tmp 16)), none⟩, ⟨(some 119), (.call 18 [(.tmp 118)]), none⟩, ⟨(some 117), (.mv (.tmp 119)), none⟩, ⟨(some 120), (.ext 0 (.tmp 117)), none⟩, ⟨(some 121), (.ext 1 (.tmp 117)), none⟩, ⟨(some 18), (.alc 34 (.agg #[(.bool false), (.int .i64 0), (.int .i64 0), (.int .i64 0), (.int .i64 0)])), none⟩, ⟨none, (.stn 5 (.tmp 18) (.tmp 120)), none⟩, ⟨(some 19), (.mv (.tmp 121)), none⟩])
    (.seq (.reg [⟨(some 123), (.mv (.tmp 15)), none⟩, ⟨(some 124), (.pcall 19 [(.tmp 123)]), none⟩, ⟨(some 122), (.mv (.tmp 124)), none⟩, ⟨(some 125), (.ext 0 (.tmp 122)), none⟩, ⟨(some 126), (.ext 1 (.tmp 122)), none⟩, ⟨(some 20), (.mv (.tmp 125)), none⟩, ⟨(some 21), (.mv (.tmp 126)), none⟩])
    (.seq (.draw (.take ⟨(some 127), (.ldn 3 (.tmp 5)), none⟩ (.take ⟨(some 128), (.mv (.tmp 6)), none⟩ (.alt false ⟨(some 129), (.call 21 [(.tmp 128)]), none⟩ (.alt false ⟨(some 130), (.call 20 [(.tmp 127), (.tmp 129)]), none⟩ (.take ⟨(some 22), (.mv (.tmp 130)), none⟩ .done) .stop) .stop))))
    (.seq (.seq
    (.draw (.take ⟨(some 131), (.mv (.tmp 16)), none⟩ (.alt false ⟨(some 132), (.call 16 [(.tmp 131)]), none⟩ (.take ⟨(some 133), (.nt (.tmp 132)), none⟩ (.take ⟨(some 134), (.mv (.tmp 133)), none⟩ (.take ⟨(some 135), (.mv (.tmp 19)), (some (134, false))⟩ (.take ⟨(some 136), (.nt (.tmp 135)), (some (134, false))⟩ (.take ⟨(some 137), (.pick (.tmp 134) (.const (.bool true)) (.tmp 136)), none⟩ (.take ⟨(some 138), (.mv (.tmp 137)), none⟩ (.take ⟨(some 139), (.mv (.tmp 16)), (some (138, false))⟩ (.alt false ⟨(some 140), (.call 22 [(.tmp 139)]), (some (138, false))⟩ (.take ⟨(some 141), (.cmp .neq (.tmp 140) (.const (.int .i64 0))), (some (138, false))⟩ (.take ⟨(some 142), (.pick (.tmp 138) (.const (.bool true)) (.tmp 141)), none⟩ (.take ⟨(some 143), (.mv (.tmp 142)), none⟩ (.take ⟨(some 144), (.ldn 5 (.tmp 18)), (some (143, false))⟩ (.take ⟨(some 146), (.mv (.tmp 20)), (some (143, false))⟩ (.alt false ⟨(some 145), (.call 14 [(.tmp 144)]), (some (143, false))⟩ (.take ⟨(some 147), (.cmp .neq (.tmp 145) (.tmp 146)), (some (143, false))⟩ (.take ⟨(some 148), (.pick (.tmp 143) (.const (.bool true)) (.tmp 147)), none⟩ (.take ⟨(some 149), (.mv (.tmp 148)), none⟩ (.take ⟨(some 150), (.ldn 5 (.tmp 18)), (some (149, false))⟩ (.take ⟨(some 152), (.mv (.tmp 12)), (some (149, false))⟩ (.take ⟨(some 153), (.mv (.tmp 13)), (some (149, false))⟩ (.take ⟨(some 154), (.ar .add (.tmp 152) (.tmp 153)), (some (149, false))⟩ (.alt false ⟨(some 151), (.call 13 [(.tmp 150)]), (some (149, false))⟩ (.take ⟨(some 155), (.cmp .lss (.tmp 151) (.tmp 154)), (some (149, false))⟩ (.take ⟨(some 156), (.mv (.tmp 155)), (some (149, false))⟩ (.take ⟨(some 157), (.mv (.tmp 12)), (some (156, true))⟩ (.take ⟨(some 158), (.ldn 5 (.tmp 18)), (some (156, true))⟩ (.take ⟨(some 160), (.mv (.tmp 20)), (some (156, true))⟩ (.alt false ⟨(some 159), (.call 13 [(.tmp 158)]), (some (156, true))⟩ (.take ⟨(some 161), (.ar .add (.tmp 159) (.tmp 160)), (some (156, true))⟩ (.take ⟨(some 162), (.cmp .lss (.tmp 157) (.tmp 161)), (some (156, true))⟩ (.take ⟨(some 163), (.pick (.tmp 156) (.tmp 162) (.const (.bool false))), (some (149, false))⟩ (.take ⟨(some 164), (.pick (.tmp 149) (.const (.bool true)) (.tmp 163)), none⟩ (.take ⟨(some 165), (.mv (.tmp 164)), none⟩ (.take ⟨(some 166), (.mv (.tmp 22)), (some (165, false))⟩ (.take ⟨(some 167), (.len (.tmp 166)), (some (165, false))⟩ (.take ⟨(some 168), (.cmp .neq (.tmp 167) (.const (.int .i64 1))), (some (165, false))⟩ (.take ⟨(some 169), (.pick (.tmp 165) (.const (.bool true)) (.tmp 168)), none⟩ (.take ⟨(some 170), (.mv (.tmp 169)), none⟩ (.take ⟨(some 171), (.mv (.tmp 22)), (some (170, false))⟩ (.take ⟨(some 172), (.iad 2 (.tmp 171) (.const (.int .i64 0))), (some (170, false))⟩ (.take ⟨(some 173), (.iadA 2 1 (.tmp 172) (.const (.int .i64 0))), (some (170, false))⟩ (.take ⟨(some 174), (.ld1 (.tmp 173)), (some (170, false))⟩ (.take ⟨(some 175), (.ldn 5 (.tmp 18)), (some (170, false))⟩ (.alt false ⟨(some 176), (.call 13 [(.tmp 175)]), (some (170, false))⟩ (.take ⟨(some 177), (.cmp .neq (.tmp 174) (.tmp 176)), (some (170, false))⟩ (.take ⟨(some 178), (.pick (.tmp 170) (.const (.bool true)) (.tmp 177)), none⟩ (.take ⟨(some 179), (.mv (.tmp 178)), none⟩ (.take ⟨(some 180), (.mv (.tmp 22)), (some (179, false))⟩ (.take ⟨(some 181), (.iad 2 (.tmp 180) (.const (.int .i64 0))), (some (179, false))⟩ (.take ⟨(some 182), (.iadA 2 1 (.tmp 181) (.const (.int .i64 1))), (some (179, false))⟩ (.take ⟨(some 183), (.ld1 (.tmp 182)), (some (179, false))⟩ (.take ⟨(some 184), (.mv (.tmp 20)), (some (179, false))⟩ (.take ⟨(some 185), (.cmp .neq (.tmp 183) (.tmp 184)), (some (179, false))⟩ (.take ⟨(some 186), (.pick (.tmp 179) (.const (.bool true)) (.tmp 185)), none⟩ .done)))))))))) .stop)))))))))))))))) .stop)))))) .stop)))))))) .stop)))))) .stop)))))))) .stop)))
    (.cond (.tmp 186)
    (.seq (.reg [⟨(some 4), (.mv (.const (.bool false))), none⟩]) .ret) .skip))
    (.reg [⟨(some 187), (.ldn 5 (.tmp 18)), none⟩, ⟨(some 188), (.call 13 [(.tmp 187)]), none⟩, ⟨(some 189), (.mv (.tmp 20)), none⟩, ⟨(some 12), (.mv (.tmp 188)), none⟩, ⟨(some 13), (.mv (.tmp 189)), none⟩]))))))))))
    (.reg [⟨(some 78), (.mv (.tmp 14)), none⟩, ⟨(some 79), (.ar .add (.tmp 78) (.const (.int .i64 1))), none⟩, ⟨(some 14), (.mv (.tmp 79)), none⟩]))))))
    (.seq (.draw (.take ⟨(some 190), (.ldn 3 (.tmp 5)), none⟩ (.take ⟨(some 191), (.mv (.tmp 6)), none⟩ (.alt false ⟨(some 192), (.call 21 [(.tmp 191)]), none⟩ (.alt false ⟨(some 193), (.call 23 [(.tmp 190), (.tmp 192)]), none⟩ (.take ⟨(some 4), (.mv (.tmp 193)), none⟩ .done) .stop) .stop)))) .ret)))))))))))))))⟩ := by kernel_rfl

/-- allotment/allotmentlaw17.awake -/
theorem tr4 : trF Tryz.prog pures Tryz.f4 = some
  ⟨69, [(.t 0)],
    (.seq (.reg [⟨(some 0), (.mv (.const (.bool false))), none⟩])
    (.seq (.reg [⟨(some 8), (.bld #[(.int .i64 0), (.int .i64 0), (.int .i64 0)] [(0, (1, (.const (.int .i64 3)))), (1, (1, (.const (.int .i64 1))))]), none⟩, ⟨(some 1), (.alc 25 (.agg #[(.int .i64 0), (.int .i64 0), (.int .i64 0)])), none⟩, ⟨none, (.stn 3 (.tmp 1) (.tmp 8)), none⟩])
    (.seq (.reg [⟨(some 9), (.ldn 3 (.tmp 1)), none⟩, ⟨(some 10), (.pcall 6 [(.tmp 9)]), none⟩, ⟨(some 11), (.mks 53 8 (.int .u64 0) (.tmp 10) (.tmp 10)), none⟩, ⟨(some 2), (.mv (.tmp 11)), none⟩])
    (.seq (.reg [⟨(some 12), (.mv (.tmp 2)), none⟩, ⟨(some 13), (.bld #[(.int .i64 0), (.int .i64 0), (.int .i64 0)] [(0, (1, (.const (.int .i64 3)))), (1, (1, (.const (.int .i64 1))))]), none⟩, ⟨(some 14), (.pcall 24 [(.tmp 13)]), none⟩, ⟨(some 15), (.iad 1 (.tmp 12) (.const (.int .i64 1))), none⟩, ⟨none, (.st1 (.tmp 15) (.tmp 14)), none⟩])
    (.seq (.reg [⟨(some 16), (.mv (.tmp 2)), none⟩, ⟨(some 17), (.call 5 [(.tmp 16)]), none⟩, ⟨(some 3), (.mv (.tmp 17)), none⟩])
    (.seq (.reg [⟨(some 18), (.ldn 3 (.tmp 1)), none⟩, ⟨(some 19), (.call 15 [(.tmp 18), (.const (.int .i64 0)), (.const (.int .i64 0)), (.const (.int .i64 100)), (.const (.int .i64 0))]), none⟩, ⟨(some 4), (.mv (.tmp 19)), none⟩])
    (.seq (.seq
    (.reg [⟨(some 20), (.mv (.tmp 3)), none⟩, ⟨(some 21), (.pnil false (.tmp 20)), none⟩, ⟨(some 22), (.mv (.tmp 21)), none⟩, ⟨(some 23), (.mv (.tmp 4)), (some (22, false))⟩, ⟨(some 24), (.pnil false (.tmp 23)), (some (22, false))⟩, ⟨(some 25), (.pick (.tmp 22) (.const (.bool true)) (.tmp 24)), none⟩])
    (.cond (.tmp 25)
    (.seq (.reg [⟨(some 0), (.mv (.const (.bool false))), none⟩]) .ret) .skip))
    (.seq (.seq
    (.reg [⟨(some 5), (.mv (.const (.int .i64 0))), none⟩])
    (.block 0
    (.loop (.seq
    (.seq (.reg [⟨(some 26), (.mv (.tmp 5)), none⟩, ⟨(some 27), (.cmp .lss (.tmp 26) (.const (.int .i64 40))), none⟩])
    (.cond (.tmp 27) .skip (.exit 0)))
    (.seq (.block 1
    (.reg [⟨(some 30), (.mv (.tmp 4)), none⟩, ⟨(some 31), (.mv (.tmp 3)), none⟩, ⟨(some 32), (.call 17 [(.tmp 30), (.tmp 31)]), none⟩]))
    (.reg [⟨(some 28), (.mv (.tmp 5)), none⟩, ⟨(some 29), (.ar .add (.tmp 28) (.const (.int .i64 1))), none⟩, ⟨(some 5), (.mv (.tmp 29)), none⟩]))))))
    (.seq (.reg [⟨(some 34), (.mv (.tmp 4)), none⟩, ⟨(some 35), (.call 18 [(.tmp 34)]), none⟩, ⟨(some 33), (.mv (.tmp 35)), none⟩, ⟨(some 36), (.ext 0 (.tmp 33)), none⟩, ⟨(some 37), (.ext 1 (.tmp 33)), none⟩, ⟨(some 6), (.alc 34 (.agg #[(.bool false), (.int .i64 0), (.int .i64 0), (.int .i64 0), (.int .i64 0)])), none⟩, ⟨none, (.stn 5 (.tmp 6) (.tmp 36)), none⟩, ⟨(some 7), (.mv (.tmp 37)), none⟩])
    (.seq (.reg [⟨(some 38), (.mv (.tmp 4)), none⟩, ⟨(some 39), (.call 16 [(.tmp 38)]), none⟩, ⟨(some 40), (.mv (.tmp 39)), none⟩, ⟨(some 41), (.mv (.tmp 7)), (some (40, true))⟩, ⟨(some 42), (.pick (.tmp 40) (.tmp 41) (.const (.bool false))), none⟩, ⟨(some 43), (.mv (.tmp 42)), none⟩, ⟨(some 44), (.mv (.tmp 4)), (some (43, true))⟩, ⟨(some 45), (.call 25 [(.tmp 44)]), (some (43, true))⟩, ⟨(some 46), (.pick (.tmp 43) (.tmp 45) (.const (.bool false))), none⟩, ⟨(some 47), (.mv (.tmp 46)), none⟩, ⟨(some 48), (.mv (.tmp 4)), (some (47, true))⟩, ⟨(some 49), (.call 22 [(.tmp 48)]), (some (47, true))⟩, ⟨(some 50), (.cmp .eql (.tmp 49) (.const (.int .i64 0))), (some (47, true))⟩, ⟨(some 51), (.pick (.tmp 47) (.tmp 50) (.const (.bool false))), none⟩, ⟨(some 52), (.mv (.tmp 51)), none⟩, ⟨(some 53), (.ldn 5 (.tmp 6)), (some (52, true))⟩, ⟨(some 54), (.call 13 [(.tmp 53)]), (some (52, true))⟩, ⟨(some 55), (.cmp .eql (.tmp 54) (.const (.int .i64 64))), (some (52, true))⟩, ⟨(some 56), (.pick (.tmp 52) (.tmp 55) (.const (.bool false))), none⟩, ⟨(some 57), (.mv (.tmp 56)), none⟩, ⟨(some 58), (.mv (.tmp 3)), (some (57, true))⟩, ⟨(some 59), (.call 26 [(.tmp 58), (.const (.int .i64 1))]), (some (57, true))⟩, ⟨(some 60), (.cmp .eql (.tmp 59) (.const (.int .u64 0))), (some (57, true))⟩, ⟨(some 61), (.pick (.tmp 57) (.tmp 60) (.const (.bool false))), none⟩, ⟨(some 62), (.mv (.tmp 61)), none⟩, ⟨(some 63), (.mv (.tmp 3)), (some (62, true))⟩, ⟨(some 64), (.call 26 [(.tmp 63), (.const (.int .i64 2))]), (some (62, true))⟩, ⟨(some 65), (.bld #[(.int .i64 0), (.int .i64 0), (.int .i64 0)] [(0, (1, (.const (.int .i64 3)))), (1, (1, (.const (.int .i64 2))))]), (some (62, true))⟩, ⟨(some 66), (.pcall 24 [(.tmp 65)]), (some (62, true))⟩, ⟨(some 67), (.cmp .eql (.tmp 64) (.tmp 66)), (some (62, true))⟩, ⟨(some 68), (.pick (.tmp 62) (.tmp 67) (.const (.bool false))), none⟩, ⟨(some 0), (.mv (.tmp 68)), none⟩]) .ret))))))))))⟩ := by kernel_rfl

end Go.Proofs.YtibeokgmfhfgjaaGreat
