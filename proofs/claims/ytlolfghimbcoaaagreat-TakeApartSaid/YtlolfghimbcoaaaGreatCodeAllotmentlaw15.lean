/-
  The compact code of functions of this seat, as translated from the model: each translation holds by reckoning. Conditions: none.
-/
import Derived.Test.YtlolfghimbcoaaaGreatCode
set_option maxRecDepth 100000
namespace Go.Proofs.YtlolfghimbcoaaaGreat
open Go Go.Ev

/-- allotment/allotmentlaw15.TakeApart -/
theorem tr3 : trF Tryz.prog pures Tryz.f3 = some
  ⟨224, [(.t 6)],
    (.seq (.reg [⟨(some 3), (.box 23 (.tmp 0)), none⟩, ⟨(some 5), (.box 25 (.tmp 2)), none⟩, ⟨(some 6), (.mv (.const (.bool false))), none⟩])
    (.seq (.seq
    (.reg [⟨(some 25), (.call 4 []), none⟩, ⟨(some 26), (.nt (.tmp 25)), none⟩])
    (.cond (.tmp 26)
    (.seq (.reg [⟨(some 6), (.mv (.const (.bool false))), none⟩]) .ret) .skip))
    (.seq (.seq
    (.reg [⟨(some 27), (.ldn 3 (.tmp 3)), none⟩, ⟨(some 28), (.mv (.tmp 1)), none⟩, ⟨(some 29), (.call 5 [(.tmp 27), (.tmp 28)]), none⟩, ⟨(some 30), (.nt (.tmp 29)), none⟩, ⟨(some 31), (.mv (.tmp 30)), none⟩, ⟨(some 32), (.ldn 3 (.tmp 3)), (some (31, false))⟩, ⟨(some 33), (.mv (.tmp 1)), (some (31, false))⟩, ⟨(some 34), (.call 6 [(.tmp 32), (.tmp 33)]), (some (31, false))⟩, ⟨(some 35), (.nt (.tmp 34)), (some (31, false))⟩, ⟨(some 36), (.pick (.tmp 31) (.const (.bool true)) (.tmp 35)), none⟩, ⟨(some 37), (.mv (.tmp 36)), none⟩, ⟨(some 38), (.ldn 3 (.tmp 3)), (some (37, false))⟩, ⟨(some 39), (.iadA 3 1 (.tmp 5) (.const (.int .i64 0))), (some (37, false))⟩, ⟨(some 40), (.ld1 (.tmp 39)), (some (37, false))⟩, ⟨(some 41), (.pcall 7 [(.tmp 38), (.tmp 40)]), (some (37, false))⟩, ⟨(some 42), (.cmp .lss (.tmp 41) (.const (.int .i64 0))), (some (37, false))⟩, ⟨(some 43), (.pick (.tmp 37) (.const (.bool true)) (.tmp 42)), none⟩, ⟨(some 44), (.mv (.tmp 43)), none⟩, ⟨(some 45), (.ldn 3 (.tmp 3)), (some (44, false))⟩, ⟨(some 46), (.iadA 3 1 (.tmp 5) (.const (.int .i64 2))), (some (44, false))⟩, ⟨(some 47), (.ld1 (.tmp 46)), (some (44, false))⟩, ⟨(some 48), (.pcall 8 [(.tmp 45), (.tmp 47)]), (some (44, false))⟩, ⟨(some 49), (.cmp .lss (.tmp 48) (.const (.int .i64 0))), (some (44, false))⟩, ⟨(some 50), (.pick (.tmp 44) (.const (.bool true)) (.tmp 49)), none⟩])
    (.cond (.tmp 50)
    (.seq (.reg [⟨(some 6), (.mv (.const (.bool true))), none⟩]) .ret) .skip))
    (.seq (.reg [⟨(some 51), (.mv (.tmp 1)), none⟩, ⟨(some 52), (.call 9 [(.tmp 51)]), none⟩, ⟨(some 7), (.mv (.tmp 52)), none⟩])
    (.seq (.reg [⟨(some 53), (.ldn 3 (.tmp 3)), none⟩, ⟨(some 54), (.iadA 3 1 (.tmp 5) (.const (.int .i64 0))), none⟩, ⟨(some 55), (.ld1 (.tmp 54)), none⟩, ⟨(some 56), (.iadA 3 1 (.tmp 5) (.const (.int .i64 1))), none⟩, ⟨(some 57), (.ld1 (.tmp 56)), none⟩, ⟨(some 58), (.iadA 3 1 (.tmp 5) (.const (.int .i64 2))), none⟩, ⟨(some 59), (.ld1 (.tmp 58)), none⟩, ⟨(some 60), (.call 10 [(.tmp 53), (.tmp 55), (.tmp 57), (.tmp 59)]), none⟩, ⟨(some 8), (.mv (.tmp 60)), none⟩])
    (.seq (.seq
    (.reg [⟨(some 61), (.mv (.tmp 7)), none⟩, ⟨(some 62), (.pnil false (.tmp 61)), none⟩, ⟨(some 63), (.mv (.tmp 62)), none⟩, ⟨(some 64), (.mv (.tmp 8)), (some (63, false))⟩, ⟨(some 65), (.pnil false (.tmp 64)), (some (63, false))⟩, ⟨(some 66), (.pick (.tmp 63) (.const (.bool true)) (.tmp 65)), none⟩])
    (.cond (.tmp 66)
    (.seq (.reg [⟨(some 6), (.mv (.const (.bool false))), none⟩]) .ret) .skip))
    (.seq (.seq
    (.reg [⟨(some 9), (.mv (.const (.int .i64 0))), none⟩])
    (.block 0
    (.loop (.seq
    (.seq (.reg [⟨(some 67), (.mv (.tmp 9)), none⟩, ⟨(some 68), (.fad 2 (.tmp 3)), none⟩, ⟨(some 69), (.ld1 (.tmp 68)), none⟩, ⟨(some 70), (.fad 0 (.tmp 3)), none⟩, ⟨(some 71), (.ld1 (.tmp 70)), none⟩, ⟨(some 72), (.ar .mul (.const (.int .i64 80)) (.tmp 71)), none⟩, ⟨(some 73), (.ar .add (.tmp 69) (.tmp 72)), none⟩, ⟨(some 74), (.ar .add (.tmp 73) (.const (.int .i64 80))), none⟩, ⟨(some 75), (.cmp .lss (.tmp 67) (.tmp 74)), none⟩])
    (.cond (.tmp 75) .skip (.exit 0)))
    (.seq (.block 1
    (.reg [⟨(some 78), (.mv (.tmp 8)), none⟩, ⟨(some 79), (.mv (.tmp 7)), none⟩, ⟨(some 80), (.call 11 [(.tmp 78), (.tmp 79)]), none⟩]))
    (.reg [⟨(some 76), (.mv (.tmp 9)), none⟩, ⟨(some 77), (.ar .add (.tmp 76) (.const (.int .i64 1))), none⟩, ⟨(some 9), (.mv (.tmp 77)), none⟩]))))))
    (.seq (.reg [⟨(some 82), (.mv (.tmp 8)), none⟩, ⟨(some 83), (.call 12 [(.tmp 82)]), none⟩, ⟨(some 81), (.mv (.tmp 83)), none⟩, ⟨(some 84), (.ext 0 (.tmp 81)), none⟩, ⟨(some 85), (.ext 1 (.tmp 81)), none⟩, ⟨(some 10), (.alc 35 (.agg #[(.bool false), (.int .i64 0), (.int .i64 0), (.int .i64 0), (.int .i64 0)])), none⟩, ⟨none, (.stn 5 (.tmp 10) (.tmp 84)), none⟩, ⟨(some 11), (.mv (.tmp 85)), none⟩])
    (.seq (.seq
    (.reg [⟨(some 86), (.mv (.tmp 8)), none⟩, ⟨(some 87), (.call 13 [(.tmp 86)]), none⟩, ⟨(some 88), (.nt (.tmp 87)), none⟩])
    (.cond (.tmp 88)
    (.seq (.reg [⟨(some 6), (.mv (.const (.bool false))), none⟩]) .ret) .skip))
    (.seq (.seq
    (.reg [⟨(some 89), (.mv (.tmp 11)), none⟩, ⟨(some 90), (.nt (.tmp 89)), none⟩])
    (.cond (.tmp 90)
    (.seq (.reg [⟨(some 6), (.mv (.const (.bool true))), none⟩]) .ret) .skip))
    (.seq (.reg [⟨(some 91), (.fad 0 (.tmp 3)), none⟩, ⟨(some 92), (.ld1 (.tmp 91)), none⟩, ⟨(some 93), (.ar .mul (.tmp 92) (.const (.int .i64 64))), none⟩, ⟨(some 94), (.call 14 [(.tmp 93)]), none⟩, ⟨(some 12), (.mv (.tmp 94)), none⟩])
    (.seq (.reg [⟨(some 95), (.ldn 3 (.tmp 3)), none⟩, ⟨(some 96), (.mv (.tmp 1)), none⟩, ⟨(some 97), (.call 15 [(.tmp 95), (.tmp 96)]), none⟩, ⟨(some 13), (.mv (.tmp 97)), none⟩])
    (.seq (.seq
    (.reg [⟨(some 14), (.mv (.const (.int .i64 0))), none⟩])
    (.block 2
    (.loop (.seq
    (.seq (.reg [⟨(some 98), (.mv (.tmp 14)), none⟩, ⟨(some 99), (.mv (.tmp 13)), none⟩, ⟨(some 100), (.len (.tmp 99)), none⟩, ⟨(some 101), (.cmp .lss (.tmp 98) (.tmp 100)), none⟩])
    (.cond (.tmp 101) .skip (.exit 2)))
    (.seq (.block 3
    (.draw (.take ⟨(some 104), (.mv (.tmp 12)), none⟩ (.take ⟨(some 105), (.mv (.tmp 13)), none⟩ (.take ⟨(some 106), (.mv (.tmp 14)), none⟩ (.take ⟨(some 107), (.iad 2 (.tmp 105) (.tmp 106)), none⟩ (.take ⟨(some 108), (.iadA 2 1 (.tmp 107) (.const (.int .i64 0))), none⟩ (.take ⟨(some 109), (.ld1 (.tmp 108)), none⟩ (.take ⟨(some 110), (.mv (.tmp 13)), none⟩ (.take ⟨(some 111), (.mv (.tmp 14)), none⟩ (.take ⟨(some 112), (.iad 2 (.tmp 110) (.tmp 111)), none⟩ (.take ⟨(some 113), (.iadA 2 1 (.tmp 112) (.const (.int .i64 1))), none⟩ (.take ⟨(some 114), (.ld1 (.tmp 113)), none⟩ (.alt true ⟨(some 115), (.call 16 [(.tmp 104), (.tmp 109), (.tmp 114)]), none⟩ .done .stop))))))))))))))
    (.reg [⟨(some 102), (.mv (.tmp 14)), none⟩, ⟨(some 103), (.ar .add (.tmp 102) (.const (.int .i64 1))), none⟩, ⟨(some 14), (.mv (.tmp 103)), none⟩]))))))
    (.seq (.reg [⟨(some 117), (.iadA 3 1 (.tmp 5) (.const (.int .i64 1))), none⟩, ⟨(some 118), (.ld1 (.tmp 117)), none⟩, ⟨(some 119), (.pcall 17 [(.tmp 118)]), none⟩, ⟨(some 116), (.mv (.tmp 119)), none⟩, ⟨(some 120), (.ext 0 (.tmp 116)), none⟩, ⟨(some 121), (.ext 1 (.tmp 116)), none⟩, ⟨(some 15), (.mv (.tmp 120)), none⟩, ⟨(some 16), (.mv (.tmp 121)), none⟩])
    (.seq (.seq
    (.draw (.take ⟨(some 122), (.mv (.tmp 16)), none⟩ (.take ⟨(some 123), (.nt (.tmp 122)), none⟩ (.take ⟨(some 124), (.mv (.tmp 123)), none⟩ (.take ⟨(some 125), (.ldn 5 (.tmp 10)), (some (124, false))⟩ (.take ⟨(some 127), (.mv (.tmp 15)), (some (124, false))⟩ (.alt false ⟨(some 126), (.call 18 [(.tmp 125)]), (some (124, false))⟩ (.take ⟨(some 128), (.cmp .neq (.tmp 126) (.tmp 127)), (some (124, false))⟩ (.take ⟨(some 129), (.pick (.tmp 124) (.const (.bool true)) (.tmp 128)), none⟩ (.take ⟨(some 130), (.mv (.tmp 129)), none⟩ (.take ⟨(some 131), (.mv (.tmp 12)), (some (130, false))⟩ (.take ⟨(some 132), (.ldn 5 (.tmp 10)), (some (130, false))⟩ (.take ⟨(some 134), (.ldn 5 (.tmp 10)), (some (130, false))⟩ (.alt false ⟨(some 133), (.call 19 [(.tmp 132)]), (some (130, false))⟩ (.alt false ⟨(some 135), (.call 18 [(.tmp 134)]), (some (130, false))⟩ (.alt false ⟨(some 136), (.call 16 [(.tmp 131), (.tmp 133), (.tmp 135)]), (some (130, false))⟩ (.take ⟨(some 137), (.nt (.tmp 136)), (some (130, false))⟩ (.take ⟨(some 138), (.pick (.tmp 130) (.const (.bool true)) (.tmp 137)), none⟩ .done)) .stop) .stop) .stop))))))) .stop)))))))
    (.cond (.tmp 138)
    (.seq (.reg [⟨(some 6), (.mv (.const (.bool false))), none⟩]) .ret) .skip))
    (.seq (.seq
    (.reg [⟨(some 139), (.ldn 5 (.tmp 10)), none⟩, ⟨(some 140), (.call 19 [(.tmp 139)]), none⟩, ⟨(some 17), (.mv (.tmp 140)), none⟩])
    (.block 4
    (.loop (.seq
    (.seq (.draw (.take ⟨(some 141), (.mv (.tmp 17)), none⟩ (.take ⟨(some 142), (.ldn 5 (.tmp 10)), none⟩ (.take ⟨(some 144), (.ldn 5 (.tmp 10)), none⟩ (.alt false ⟨(some 143), (.call 19 [(.tmp 142)]), none⟩ (.alt false ⟨(some 145), (.call 18 [(.tmp 144)]), none⟩ (.take ⟨(some 146), (.ar .add (.tmp 143) (.tmp 145)), none⟩ (.take ⟨(some 147), (.cmp .lss (.tmp 141) (.tmp 146)), none⟩ .done)) .stop) .stop)))))
    (.cond (.tmp 147) .skip (.exit 4)))
    (.seq (.block 5
    (.seq (.reg [⟨(some 151), (.ldn 3 (.tmp 3)), none⟩, ⟨(some 152), (.mv (.tmp 1)), none⟩, ⟨(some 153), (.mv (.tmp 17)), none⟩, ⟨(some 154), (.call 20 [(.tmp 151), (.tmp 152), (.tmp 153)]), none⟩, ⟨(some 150), (.mv (.tmp 154)), none⟩, ⟨(some 155), (.ext 0 (.tmp 150)), none⟩, ⟨(some 156), (.ext 1 (.tmp 150)), none⟩, ⟨(some 18), (.mv (.tmp 155)), none⟩, ⟨(some 19), (.mv (.tmp 156)), none⟩])
    (.seq (.reg [⟨(some 157), (.mv (.tmp 19)), none⟩, ⟨(some 158), (.mv (.tmp 157)), none⟩, ⟨(some 159), (.mv (.tmp 18)), (some (158, true))⟩, ⟨(some 160), (.iadA 3 1 (.tmp 5) (.const (.int .i64 0))), (some (158, true))⟩, ⟨(some 161), (.ld1 (.tmp 160)), (some (158, true))⟩, ⟨(some 162), (.cmp .neq (.tmp 159) (.tmp 161)), (some (158, true))⟩, ⟨(some 163), (.pick (.tmp 158) (.tmp 162) (.const (.bool false))), none⟩])
    (.cond (.tmp 163)
    (.seq (.reg [⟨(some 6), (.mv (.const (.bool false))), none⟩]) .ret) .skip))))
    (.reg [⟨(some 148), (.mv (.tmp 17)), none⟩, ⟨(some 149), (.ar .add (.tmp 148) (.const (.int .i64 1))), none⟩, ⟨(some 17), (.mv (.tmp 149)), none⟩]))))))
    (.seq (.reg [⟨(some 164), (.ldn 3 (.tmp 3)), none⟩, ⟨(some 165), (.iadA 3 1 (.tmp 5) (.const (.int .i64 0))), none⟩, ⟨(some 166), (.ld1 (.tmp 165)), none⟩, ⟨(some 167), (.ldn 5 (.tmp 10)), none⟩, ⟨(some 168), (.call 21 [(.tmp 164), (.tmp 166), (.tmp 167)]), none⟩, ⟨(some 20), (.mv (.tmp 168)), none⟩])
    (.seq (.seq
    (.reg [⟨(some 169), (.mv (.tmp 20)), none⟩, ⟨(some 170), (.pnil false (.tmp 169)), none⟩])
    (.cond (.tmp 170)
    (.seq (.reg [⟨(some 6), (.mv (.const (.bool false))), none⟩]) .ret) .skip))
    (.seq (.reg [⟨(some 171), (.mv (.tmp 20)), none⟩, ⟨(some 172), (.mv (.tmp 7)), none⟩, ⟨(some 173), (.call 22 [(.tmp 171), (.tmp 172)]), none⟩])
    (.seq (.draw (.take ⟨(some 174), (.ldn 3 (.tmp 3)), none⟩ (.take ⟨(some 175), (.mv (.tmp 7)), none⟩ (.alt false ⟨(some 176), (.call 23 [(.tmp 175)]), none⟩ (.alt false ⟨(some 177), (.call 15 [(.tmp 174), (.tmp 176)]), none⟩ (.take ⟨(some 21), (.mv (.tmp 177)), none⟩ .done) .stop) .stop))))
    (.seq (.seq
    (.draw (.take ⟨(some 178), (.mv (.tmp 20)), none⟩ (.alt false ⟨(some 179), (.call 24 [(.tmp 178)]), none⟩ (.take ⟨(some 180), (.nt (.tmp 179)), none⟩ (.take ⟨(some 181), (.mv (.tmp 180)), none⟩ (.take ⟨(some 182), (.mv (.tmp 21)), (some (181, false))⟩ (.take ⟨(some 183), (.len (.tmp 182)), (some (181, false))⟩ (.take ⟨(some 184), (.mv (.tmp 13)), (some (181, false))⟩ (.take ⟨(some 185), (.len (.tmp 184)), (some (181, false))⟩ (.take ⟨(some 186), (.ar .add (.tmp 185) (.const (.int .i64 1))), (some (181, false))⟩ (.take ⟨(some 187), (.cmp .neq (.tmp 183) (.tmp 186)), (some (181, false))⟩ (.take ⟨(some 188), (.pick (.tmp 181) (.const (.bool true)) (.tmp 187)), none⟩ (.take ⟨(some 189), (.mv (.tmp 188)), none⟩ (.take ⟨(some 190), (.ldn 3 (.tmp 3)), (some (189, false))⟩ (.take ⟨(some 191), (.mv (.tmp 7)), (some (189, false))⟩ (.alt false ⟨(some 192), (.call 23 [(.tmp 191)]), (some (189, false))⟩ (.alt false ⟨(some 193), (.call 6 [(.tmp 190), (.tmp 192)]), (some (189, false))⟩ (.take ⟨(some 194), (.nt (.tmp 193)), (some (189, false))⟩ (.take ⟨(some 195), (.pick (.tmp 189) (.const (.bool true)) (.tmp 194)), none⟩ .done)) .stop) .stop))))))))))))) .stop)))
    (.cond (.tmp 195)
    (.seq (.reg [⟨(some 6), (.mv (.const (.bool false))), none⟩]) .ret) .skip))
    (.seq (.seq
    (.reg [⟨(some 22), (.mv (.const (.int .i64 0))), none⟩])
    (.block 6
    (.loop (.seq
    (.seq (.reg [⟨(some 196), (.mv (.tmp 22)), none⟩, ⟨(some 197), (.mv (.tmp 21)), none⟩, ⟨(some 198), (.len (.tmp 197)), none⟩, ⟨(some 199), (.cmp .lss (.tmp 196) (.tmp 198)), none⟩])
    (.cond (.tmp 199) .skip (.exit 6)))
    (.seq (.block 7
    (.seq (.reg [⟨(some 203), (.mv (.tmp 12)), none⟩, ⟨(some 204), (.mv (.tmp 21)), none⟩, ⟨(some 205), (.mv (.tmp 22)), none⟩, ⟨(some 206), (.iad 2 (.tmp 204) (.tmp 205)), none⟩, ⟨(some 207), (.iadA 2 1 (.tmp 206) (.const (.int .i64 0))), none⟩, ⟨(some 208), (.ld1 (.tmp 207)), none⟩, ⟨(some 209), (.call 25 [(.tmp 203), (.tmp 208)]), none⟩, ⟨(some 202), (.mv (.tmp 209)), none⟩, ⟨(some 210), (.ext 0 (.tmp 202)), none⟩, ⟨(some 211), (.ext 1 (.tmp 202)), none⟩, ⟨(some 23), (.alc 52 (.agg #[(.int .i64 0), (.int .i64 0)])), none⟩, ⟨none, (.stn 2 (.tmp 23) (.tmp 210)), none⟩, ⟨(some 24), (.mv (.tmp 211)), none⟩])
    (.seq (.reg [⟨(some 212), (.mv (.tmp 24)), none⟩, ⟨(some 213), (.nt (.tmp 212)), none⟩, ⟨(some 214), (.mv (.tmp 213)), none⟩, ⟨(some 215), (.fad 1 (.tmp 23)), (some (214, false))⟩, ⟨(some 216), (.ld1 (.tmp 215)), (some (214, false))⟩, ⟨(some 217), (.mv (.tmp 21)), (some (214, false))⟩, ⟨(some 218), (.mv (.tmp 22)), (some (214, false))⟩, ⟨(some 219), (.iad 2 (.tmp 217) (.tmp 218)), (some (214, false))⟩, ⟨(some 220), (.iadA 2 1 (.tmp 219) (.const (.int .i64 1))), (some (214, false))⟩, ⟨(some 221), (.ld1 (.tmp 220)), (some (214, false))⟩, ⟨(some 222), (.cmp .neq (.tmp 216) (.tmp 221)), (some (214, false))⟩, ⟨(some 223), (.pick (.tmp 214) (.const (.bool true)) (.tmp 222)), none⟩])
    (.cond (.tmp 223)
    (.seq (.reg [⟨(some 6), (.mv (.const (.bool false))), none⟩]) .ret) .skip))))
    (.reg [⟨(some 200), (.mv (.tmp 22)), none⟩, ⟨(some 201), (.ar .add (.tmp 200) (.const (.int .i64 1))), none⟩, ⟨(some 22), (.mv (.tmp 201)), none⟩]))))))
    (.seq (.reg [⟨(some 6), (.mv (.const (.bool true))), none⟩]) .ret)))))))))))))))))))))))⟩ := by kernel_rfl

/-- allotment/allotmentlaw15.awake -/
theorem tr4 : trF Tryz.prog pures Tryz.f4 = some
  ⟨69, [(.t 0)],
    (.seq (.reg [⟨(some 0), (.mv (.const (.bool false))), none⟩])
    (.seq (.reg [⟨(some 7), (.bld #[(.int .i64 0), (.int .i64 0), (.int .i64 0)] [(0, (1, (.const (.int .i64 1)))), (1, (1, (.const (.int .i64 1))))]), none⟩, ⟨(some 1), (.alc 23 (.agg #[(.int .i64 0), (.int .i64 0), (.int .i64 0)])), none⟩, ⟨none, (.stn 3 (.tmp 1) (.tmp 7)), none⟩])
    (.seq (.reg [⟨(some 8), (.ldn 3 (.tmp 1)), none⟩, ⟨(some 9), (.pcall 26 [(.tmp 8)]), none⟩, ⟨(some 10), (.mks 57 8 (.int .u64 0) (.tmp 9) (.tmp 9)), none⟩, ⟨(some 11), (.call 9 [(.tmp 10)]), none⟩, ⟨(some 2), (.mv (.tmp 11)), none⟩])
    (.seq (.reg [⟨(some 12), (.ldn 3 (.tmp 1)), none⟩, ⟨(some 13), (.call 10 [(.tmp 12), (.const (.int .i64 0)), (.const (.int .i64 64)), (.const (.int .i64 0))]), none⟩, ⟨(some 3), (.mv (.tmp 13)), none⟩])
    (.seq (.seq
    (.reg [⟨(some 14), (.mv (.tmp 2)), none⟩, ⟨(some 15), (.pnil false (.tmp 14)), none⟩, ⟨(some 16), (.mv (.tmp 15)), none⟩, ⟨(some 17), (.mv (.tmp 3)), (some (16, false))⟩, ⟨(some 18), (.pnil false (.tmp 17)), (some (16, false))⟩, ⟨(some 19), (.pick (.tmp 16) (.const (.bool true)) (.tmp 18)), none⟩])
    (.cond (.tmp 19)
    (.seq (.reg [⟨(some 0), (.mv (.const (.bool false))), none⟩]) .ret) .skip))
    (.seq (.reg [⟨(some 20), (.mv (.tmp 3)), none⟩, ⟨(some 21), (.mv (.tmp 2)), none⟩, ⟨(some 22), (.call 11 [(.tmp 20), (.tmp 21)]), none⟩])
    (.seq (.reg [⟨(some 23), (.mv (.tmp 3)), none⟩, ⟨(some 24), (.mv (.tmp 2)), none⟩, ⟨(some 25), (.call 11 [(.tmp 23), (.tmp 24)]), none⟩])
    (.seq (.reg [⟨(some 27), (.mv (.tmp 3)), none⟩, ⟨(some 28), (.call 12 [(.tmp 27)]), none⟩, ⟨(some 26), (.mv (.tmp 28)), none⟩, ⟨(some 29), (.ext 0 (.tmp 26)), none⟩, ⟨(some 30), (.ext 1 (.tmp 26)), none⟩, ⟨(some 4), (.alc 35 (.agg #[(.bool false), (.int .i64 0), (.int .i64 0), (.int .i64 0), (.int .i64 0)])), none⟩, ⟨none, (.stn 5 (.tmp 4) (.tmp 29)), none⟩, ⟨(some 5), (.mv (.tmp 30)), none⟩])
    (.seq (.reg [⟨(some 31), (.ldn 3 (.tmp 1)), none⟩, ⟨(some 32), (.ldn 5 (.tmp 4)), none⟩, ⟨(some 33), (.call 21 [(.tmp 31), (.const (.int .i64 0)), (.tmp 32)]), none⟩, ⟨(some 6), (.mv (.tmp 33)), none⟩])
    (.seq (.seq
    (.reg [⟨(some 34), (.mv (.tmp 6)), none⟩, ⟨(some 35), (.pnil false (.tmp 34)), none⟩])
    (.cond (.tmp 35)
    (.seq (.reg [⟨(some 0), (.mv (.const (.bool false))), none⟩]) .ret) .skip))
    (.seq (.reg [⟨(some 36), (.mv (.tmp 6)), none⟩, ⟨(some 37), (.mv (.tmp 2)), none⟩, ⟨(some 38), (.call 22 [(.tmp 36), (.tmp 37)]), none⟩])
    (.seq (.reg [⟨(some 39), (.mv (.tmp 3)), none⟩, ⟨(some 40), (.call 13 [(.tmp 39)]), none⟩, ⟨(some 41), (.mv (.tmp 40)), none⟩, ⟨(some 42), (.mv (.tmp 5)), (some (41, true))⟩, ⟨(some 43), (.pick (.tmp 41) (.tmp 42) (.const (.bool false))), none⟩, ⟨(some 44), (.mv (.tmp 43)), none⟩, ⟨(some 45), (.fad 0 (.tmp 4)), (some (44, true))⟩, ⟨(some 46), (.ld1 (.tmp 45)), (some (44, true))⟩, ⟨(some 47), (.pick (.tmp 44) (.tmp 46) (.const (.bool false))), none⟩, ⟨(some 48), (.mv (.tmp 47)), none⟩, ⟨(some 49), (.ldn 5 (.tmp 4)), (some (48, true))⟩, ⟨(some 50), (.call 18 [(.tmp 49)]), (some (48, true))⟩, ⟨(some 51), (.cmp .eql (.tmp 50) (.const (.int .i64 64))), (some (48, true))⟩, ⟨(some 52), (.pick (.tmp 48) (.tmp 51) (.const (.bool false))), none⟩, ⟨(some 53), (.mv (.tmp 52)), none⟩, ⟨(some 54), (.ldn 5 (.tmp 4)), (some (53, true))⟩, ⟨(some 55), (.call 19 [(.tmp 54)]), (some (53, true))⟩, ⟨(some 56), (.cmp .eql (.tmp 55) (.const (.int .i64 0))), (some (53, true))⟩, ⟨(some 57), (.pick (.tmp 53) (.tmp 56) (.const (.bool false))), none⟩, ⟨(some 58), (.mv (.tmp 57)), none⟩, ⟨(some 59), (.mv (.tmp 6)), (some (58, true))⟩, ⟨(some 60), (.call 24 [(.tmp 59)]), (some (58, true))⟩, ⟨(some 61), (.pick (.tmp 58) (.tmp 60) (.const (.bool false))), none⟩, ⟨(some 62), (.mv (.tmp 61)), none⟩, ⟨(some 63), (.mv (.tmp 2)), (some (62, true))⟩, ⟨(some 64), (.call 27 [(.tmp 63), (.const (.int .i64 1))]), (some (62, true))⟩, ⟨(some 65), (.bld #[(.int .i64 0), (.int .i64 0), (.int .i64 0)] [(0, (1, (.const (.int .i64 3)))), (1, (1, (.const (.int .i64 1))))]), (some (62, true))⟩, ⟨(some 66), (.pcall 28 [(.tmp 65)]), (some (62, true))⟩, ⟨(some 67), (.cmp .eql (.tmp 64) (.tmp 66)), (some (62, true))⟩, ⟨(some 68), (.pick (.tmp 62) (.tmp 67) (.const (.bool false))), none⟩, ⟨(some 0), (.mv (.tmp 68)), none⟩]) .ret))))))))))))⟩ := by kernel_rfl

end Go.Proofs.YtlolfghimbcoaaaGreat
