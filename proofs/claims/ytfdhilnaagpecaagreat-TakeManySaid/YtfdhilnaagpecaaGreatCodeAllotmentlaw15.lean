/-
  The compact code of functions of this seat, as translated from the model: each translation holds by reckoning. Conditions: none.
-/
import Derived.Test.YtfdhilnaagpecaaGreatCode
set_option maxRecDepth 100000
namespace Go.Proofs.YtfdhilnaagpecaaGreat
open Go Go.Ev

/-- allotment/allotmentlaw15.TakeMany -/
theorem tr3 : trF Tryz.prog pures Tryz.f3 = some
  ⟨282, [(.t 6)],
    (.seq (.reg [⟨(some 6), (.mv (.const (.bool false))), none⟩])
    (.seq (.seq
    (.reg [⟨(some 26), (.call 4 []), none⟩, ⟨(some 27), (.nt (.tmp 26)), none⟩])
    (.cond (.tmp 27)
    (.seq (.reg [⟨(some 6), (.mv (.const (.bool false))), none⟩]) .ret) .skip))
    (.seq (.reg [⟨(some 28), (.mv (.tmp 1)), none⟩, ⟨(some 29), (.len (.tmp 28)), none⟩, ⟨(some 7), (.mv (.tmp 29)), none⟩])
    (.seq (.seq
    (.reg [⟨(some 30), (.mv (.tmp 7)), none⟩, ⟨(some 31), (.cmp .eql (.tmp 30) (.const (.int .i64 0))), none⟩, ⟨(some 32), (.mv (.tmp 31)), none⟩, ⟨(some 33), (.mv (.tmp 7)), (some (32, false))⟩, ⟨(some 34), (.cmp .gtr (.tmp 33) (.const (.int .i64 10))), (some (32, false))⟩, ⟨(some 35), (.pick (.tmp 32) (.const (.bool true)) (.tmp 34)), none⟩, ⟨(some 36), (.mv (.tmp 35)), none⟩, ⟨(some 37), (.mv (.tmp 2)), (some (36, false))⟩, ⟨(some 38), (.len (.tmp 37)), (some (36, false))⟩, ⟨(some 39), (.cmp .gtr (.tmp 38) (.const (.int .i64 3000))), (some (36, false))⟩, ⟨(some 40), (.pick (.tmp 36) (.const (.bool true)) (.tmp 39)), none⟩])
    (.cond (.tmp 40)
    (.seq (.reg [⟨(some 6), (.mv (.const (.bool true))), none⟩]) .ret) .skip))
    (.seq (.reg [⟨(some 41), (.mv (.tmp 0)), none⟩, ⟨(some 42), (.cv .i64 (.tmp 41)), none⟩, ⟨(some 43), (.dv .rem (.tmp 42) (.const (.int .i64 8))), none⟩, ⟨(some 44), (.ar .add (.const (.int .i64 1)) (.tmp 43)), none⟩, ⟨(some 45), (.mv (.tmp 7)), none⟩, ⟨(some 46), (.bld #[(.int .i64 0), (.int .i64 0), (.int .i64 0)] [(0, (1, (.tmp 44))), (1, (1, (.tmp 45)))]), none⟩, ⟨(some 8), (.alc 26 (.agg #[(.int .i64 0), (.int .i64 0), (.int .i64 0)])), none⟩, ⟨none, (.stn 3 (.tmp 8) (.tmp 46)), none⟩])
    (.seq (.reg [⟨(some 47), (.ldn 3 (.tmp 8)), none⟩, ⟨(some 48), (.pcall 6 [(.tmp 47)]), none⟩, ⟨(some 49), (.mks 60 8 (.int .u64 0) (.tmp 48) (.tmp 48)), none⟩, ⟨(some 50), (.call 5 [(.tmp 49)]), none⟩, ⟨(some 9), (.mv (.tmp 50)), none⟩])
    (.seq (.seq
    (.reg [⟨(some 51), (.mv (.tmp 9)), none⟩, ⟨(some 52), (.pnil false (.tmp 51)), none⟩])
    (.cond (.tmp 52)
    (.seq (.reg [⟨(some 6), (.mv (.const (.bool false))), none⟩]) .ret) .skip))
    (.seq (.reg [⟨(some 10), (.mv (.const (.slice none 0 0))), none⟩])
    (.seq (.reg [⟨(some 53), (.mv (.tmp 7)), none⟩, ⟨(some 54), (.mks 40 8 (.pointer none) (.tmp 53) (.tmp 53)), none⟩, ⟨(some 11), (.mv (.tmp 54)), none⟩])
    (.seq (.seq
    (.reg [⟨(some 12), (.mv (.const (.int .i64 0))), none⟩])
    (.block 0
    (.loop (.seq
    (.seq (.reg [⟨(some 55), (.mv (.tmp 12)), none⟩, ⟨(some 56), (.mv (.tmp 7)), none⟩, ⟨(some 57), (.cmp .lss (.tmp 55) (.tmp 56)), none⟩])
    (.cond (.tmp 57) .skip (.exit 0)))
    (.seq (.block 1
    (.draw (.take ⟨(some 60), (.mv (.tmp 10)), none⟩ (.take ⟨(some 61), (.ldn 3 (.tmp 8)), none⟩ (.take ⟨(some 62), (.mv (.tmp 12)), none⟩ (.take ⟨(some 63), (.mv (.tmp 1)), none⟩ (.take ⟨(some 64), (.mv (.tmp 12)), none⟩ (.take ⟨(some 65), (.iad 1 (.tmp 63) (.tmp 64)), none⟩ (.take ⟨(some 66), (.ld1 (.tmp 65)), none⟩ (.take ⟨(some 67), (.cv .i64 (.tmp 66)), none⟩ (.take ⟨(some 68), (.dv .rem (.tmp 67) (.const (.int .i64 512))), none⟩ (.take ⟨(some 69), (.ar .add (.const (.int .i64 1)) (.tmp 68)), none⟩ (.take ⟨(some 70), (.mv (.tmp 12)), none⟩ (.take ⟨(some 71), (.fad 0 (.tmp 8)), none⟩ (.take ⟨(some 72), (.ld1 (.tmp 71)), none⟩ (.take ⟨(some 73), (.dv .rem (.tmp 70) (.tmp 72)), none⟩ (.alt false ⟨(some 74), (.call 7 [(.tmp 61), (.tmp 62), (.tmp 69), (.tmp 73)]), none⟩ (.alt false ⟨(some 75), (.bsl 33 #[(.pointer none)] 1 1 [(0, (.tmp 74))]), none⟩ (.alt false ⟨(some 76), (.app 33 1 8 #[(.pointer none)] (.tmp 60) (.tmp 75)), none⟩ (.take ⟨(some 10), (.mv (.tmp 76)), none⟩ .done) .stop) .stop) .stop)))))))))))))))))
    (.reg [⟨(some 58), (.mv (.tmp 12)), none⟩, ⟨(some 59), (.ar .add (.tmp 58) (.const (.int .i64 1))), none⟩, ⟨(some 12), (.mv (.tmp 59)), none⟩]))))))
    (.seq (.seq
    (.reg [⟨(some 13), (.mv (.const (.int .i64 0))), none⟩])
    (.block 2
    (.loop (.seq
    (.seq (.reg [⟨(some 77), (.mv (.tmp 13)), none⟩, ⟨(some 78), (.mv (.tmp 2)), none⟩, ⟨(some 79), (.len (.tmp 78)), none⟩, ⟨(some 80), (.mv (.tmp 7)), none⟩, ⟨(some 81), (.fad 0 (.tmp 8)), none⟩, ⟨(some 82), (.ld1 (.tmp 81)), none⟩, ⟨(some 83), (.ar .mul (.const (.int .i64 80)) (.tmp 82)), none⟩, ⟨(some 84), (.ar .add (.tmp 83) (.const (.int .i64 90))), none⟩, ⟨(some 85), (.ar .mul (.tmp 80) (.tmp 84)), none⟩, ⟨(some 86), (.ar .add (.tmp 79) (.tmp 85)), none⟩, ⟨(some 87), (.cmp .lss (.tmp 77) (.tmp 86)), none⟩])
    (.cond (.tmp 87) .skip (.exit 2)))
    (.seq (.block 3
    (.seq (.reg [⟨(some 90), (.mv (.tmp 13)), none⟩, ⟨(some 91), (.mv (.tmp 7)), none⟩, ⟨(some 92), (.dv .rem (.tmp 90) (.tmp 91)), none⟩, ⟨(some 14), (.mv (.tmp 92)), none⟩])
    (.seq (.seq
    (.reg [⟨(some 93), (.mv (.tmp 13)), none⟩, ⟨(some 94), (.mv (.tmp 2)), none⟩, ⟨(some 95), (.len (.tmp 94)), none⟩, ⟨(some 96), (.cmp .lss (.tmp 93) (.tmp 95)), none⟩])
    (.cond (.tmp 96)
    (.reg [⟨(some 97), (.mv (.tmp 2)), none⟩, ⟨(some 98), (.mv (.tmp 13)), none⟩, ⟨(some 99), (.iad 1 (.tmp 97) (.tmp 98)), none⟩, ⟨(some 100), (.ld1 (.tmp 99)), none⟩, ⟨(some 101), (.cv .i64 (.tmp 100)), none⟩, ⟨(some 102), (.mv (.tmp 7)), none⟩, ⟨(some 103), (.dv .rem (.tmp 101) (.tmp 102)), none⟩, ⟨(some 14), (.mv (.tmp 103)), none⟩]) .skip))
    (.seq (.reg [⟨(some 105), (.mv (.tmp 10)), none⟩, ⟨(some 106), (.mv (.tmp 14)), none⟩, ⟨(some 107), (.iad 1 (.tmp 105) (.tmp 106)), none⟩, ⟨(some 108), (.ld1 (.tmp 107)), none⟩, ⟨(some 109), (.call 8 [(.tmp 108)]), none⟩, ⟨(some 104), (.mv (.tmp 109)), none⟩, ⟨(some 110), (.ext 0 (.tmp 104)), none⟩, ⟨(some 111), (.ext 1 (.tmp 104)), none⟩, ⟨(some 15), (.alc 37 (.agg #[(.bool false), (.int .i64 0), (.int .i64 0), (.int .i64 0), (.int .i64 0)])), none⟩, ⟨none, (.stn 5 (.tmp 15) (.tmp 110)), none⟩, ⟨(some 16), (.mv (.tmp 111)), none⟩])
    (.block 4
    (.seq (.reg [⟨(some 119), (.mv (.tmp 11)), none⟩, ⟨(some 120), (.mv (.tmp 14)), none⟩, ⟨(some 121), (.iad 1 (.tmp 119) (.tmp 120)), none⟩, ⟨(some 122), (.ld1 (.tmp 121)), none⟩, ⟨(some 123), (.pnil true (.tmp 122)), none⟩, ⟨(some 118), (.mv (.tmp 123)), none⟩])
    (.cond (.tmp 118)
    (.reg [⟨(some 124), (.mv (.tmp 11)), none⟩, ⟨(some 125), (.mv (.tmp 14)), none⟩, ⟨(some 126), (.iad 1 (.tmp 124) (.tmp 125)), none⟩, ⟨(some 127), (.ld1 (.tmp 126)), none⟩, ⟨(some 128), (.mv (.tmp 9)), none⟩, ⟨(some 129), (.call 9 [(.tmp 127), (.tmp 128)]), none⟩])
    (.seq (.reg [⟨(some 131), (.mv (.tmp 10)), none⟩, ⟨(some 132), (.mv (.tmp 14)), none⟩, ⟨(some 133), (.iad 1 (.tmp 131) (.tmp 132)), none⟩, ⟨(some 134), (.ld1 (.tmp 133)), none⟩, ⟨(some 135), (.call 10 [(.tmp 134)]), none⟩, ⟨(some 136), (.mv (.tmp 135)), none⟩, ⟨(some 137), (.mv (.tmp 16)), (some (136, true))⟩, ⟨(some 138), (.pick (.tmp 136) (.tmp 137) (.const (.bool false))), none⟩, ⟨(some 130), (.mv (.tmp 138)), none⟩])
    (.cond (.tmp 130)
    (.seq (.reg [⟨(some 139), (.mv (.tmp 11)), none⟩, ⟨(some 140), (.mv (.tmp 14)), none⟩, ⟨(some 141), (.ldn 3 (.tmp 8)), none⟩, ⟨(some 142), (.mv (.tmp 14)), none⟩, ⟨(some 143), (.ldn 5 (.tmp 15)), none⟩, ⟨(some 144), (.call 11 [(.tmp 141), (.tmp 142), (.tmp 143)]), none⟩, ⟨(some 145), (.iad 1 (.tmp 139) (.tmp 140)), none⟩, ⟨none, (.st1 (.tmp 145) (.tmp 144)), none⟩])
    (.seq (.reg [⟨(some 146), (.mv (.tmp 11)), none⟩, ⟨(some 147), (.mv (.tmp 14)), none⟩, ⟨(some 148), (.iad 1 (.tmp 146) (.tmp 147)), none⟩, ⟨(some 149), (.ld1 (.tmp 148)), none⟩, ⟨(some 150), (.pnil false (.tmp 149)), none⟩])
    (.cond (.tmp 150)
    (.seq (.reg [⟨(some 6), (.mv (.const (.bool false))), none⟩]) .ret) .skip)))
    (.reg [⟨(some 112), (.mv (.tmp 10)), none⟩, ⟨(some 113), (.mv (.tmp 14)), none⟩, ⟨(some 114), (.iad 1 (.tmp 112) (.tmp 113)), none⟩, ⟨(some 115), (.ld1 (.tmp 114)), none⟩, ⟨(some 116), (.mv (.tmp 9)), none⟩, ⟨(some 117), (.call 12 [(.tmp 115), (.tmp 116)]), none⟩]))))))))))
    (.reg [⟨(some 88), (.mv (.tmp 13)), none⟩, ⟨(some 89), (.ar .add (.tmp 88) (.const (.int .i64 1))), none⟩, ⟨(some 13), (.mv (.tmp 89)), none⟩]))))))
    (.seq (.reg [⟨(some 151), (.fad 0 (.tmp 8)), none⟩, ⟨(some 152), (.ld1 (.tmp 151)), none⟩, ⟨(some 153), (.ar .mul (.tmp 152) (.const (.int .i64 64))), none⟩, ⟨(some 154), (.call 13 [(.tmp 153)]), none⟩, ⟨(some 17), (.mv (.tmp 154)), none⟩])
    (.seq (.reg [⟨(some 18), (.mv (.const (.int .i64 0))), none⟩])
    (.seq (.seq
    (.reg [⟨(some 19), (.mv (.const (.int .i64 0))), none⟩])
    (.block 5
    (.loop (.seq
    (.seq (.reg [⟨(some 155), (.mv (.tmp 19)), none⟩, ⟨(some 156), (.mv (.tmp 7)), none⟩, ⟨(some 157), (.cmp .lss (.tmp 155) (.tmp 156)), none⟩])
    (.cond (.tmp 157) .skip (.exit 5)))
    (.seq (.block 6
    (.seq (.reg [⟨(some 161), (.mv (.tmp 10)), none⟩, ⟨(some 162), (.mv (.tmp 19)), none⟩, ⟨(some 163), (.iad 1 (.tmp 161) (.tmp 162)), none⟩, ⟨(some 164), (.ld1 (.tmp 163)), none⟩, ⟨(some 165), (.call 8 [(.tmp 164)]), none⟩, ⟨(some 160), (.mv (.tmp 165)), none⟩, ⟨(some 166), (.ext 0 (.tmp 160)), none⟩, ⟨(some 167), (.ext 1 (.tmp 160)), none⟩, ⟨(some 20), (.alc 37 (.agg #[(.bool false), (.int .i64 0), (.int .i64 0), (.int .i64 0), (.int .i64 0)])), none⟩, ⟨none, (.stn 5 (.tmp 20) (.tmp 166)), none⟩, ⟨(some 21), (.mv (.tmp 167)), none⟩])
    (.seq (.seq
    (.reg [⟨(some 168), (.mv (.tmp 10)), none⟩, ⟨(some 169), (.mv (.tmp 19)), none⟩, ⟨(some 170), (.iad 1 (.tmp 168) (.tmp 169)), none⟩, ⟨(some 171), (.ld1 (.tmp 170)), none⟩, ⟨(some 172), (.call 10 [(.tmp 171)]), none⟩, ⟨(some 173), (.nt (.tmp 172)), none⟩, ⟨(some 174), (.mv (.tmp 173)), none⟩, ⟨(some 175), (.mv (.tmp 21)), (some (174, false))⟩, ⟨(some 176), (.mv (.tmp 175)), (some (174, false))⟩, ⟨(some 177), (.mv (.tmp 11)), (some (176, true))⟩, ⟨(some 178), (.mv (.tmp 19)), (some (176, true))⟩, ⟨(some 179), (.iad 1 (.tmp 177) (.tmp 178)), (some (176, true))⟩, ⟨(some 180), (.ld1 (.tmp 179)), (some (176, true))⟩, ⟨(some 181), (.pnil false (.tmp 180)), (some (176, true))⟩, ⟨(some 182), (.mv (.tmp 181)), (some (176, true))⟩, ⟨(some 183), (.mv (.tmp 11)), (some (182, false))⟩, ⟨(some 184), (.mv (.tmp 19)), (some (182, false))⟩, ⟨(some 185), (.iad 1 (.tmp 183) (.tmp 184)), (some (182, false))⟩, ⟨(some 186), (.ld1 (.tmp 185)), (some (182, false))⟩, ⟨(some 187), (.call 14 [(.tmp 186)]), (some (182, false))⟩, ⟨(some 188), (.nt (.tmp 187)), (some (182, false))⟩, ⟨(some 189), (.pick (.tmp 182) (.const (.bool true)) (.tmp 188)), (some (176, true))⟩, ⟨(some 190), (.pick (.tmp 176) (.tmp 189) (.const (.bool false))), (some (174, false))⟩, ⟨(some 191), (.pick (.tmp 174) (.const (.bool true)) (.tmp 190)), none⟩])
    (.cond (.tmp 191)
    (.seq (.reg [⟨(some 6), (.mv (.const (.bool false))), none⟩]) .ret) .skip))
    (.seq (.reg [⟨(some 193), (.mv (.tmp 1)), none⟩, ⟨(some 194), (.mv (.tmp 19)), none⟩, ⟨(some 195), (.iad 1 (.tmp 193) (.tmp 194)), none⟩, ⟨(some 196), (.ld1 (.tmp 195)), none⟩, ⟨(some 197), (.cv .i64 (.tmp 196)), none⟩, ⟨(some 198), (.dv .rem (.tmp 197) (.const (.int .i64 512))), none⟩, ⟨(some 199), (.ar .add (.const (.int .i64 1)) (.tmp 198)), none⟩, ⟨(some 200), (.pcall 15 [(.tmp 199)]), none⟩, ⟨(some 192), (.mv (.tmp 200)), none⟩, ⟨(some 201), (.ext 0 (.tmp 192)), none⟩, ⟨(some 202), (.ext 1 (.tmp 192)), none⟩, ⟨(some 22), (.mv (.tmp 201)), none⟩, ⟨(some 23), (.mv (.tmp 202)), none⟩])
    (.seq (.seq
    (.draw (.take ⟨(some 203), (.mv (.tmp 21)), none⟩ (.take ⟨(some 204), (.mv (.tmp 203)), none⟩ (.take ⟨(some 205), (.ldn 5 (.tmp 20)), (some (204, true))⟩ (.take ⟨(some 207), (.mv (.tmp 22)), (some (204, true))⟩ (.alt false ⟨(some 206), (.call 16 [(.tmp 205)]), (some (204, true))⟩ (.take ⟨(some 208), (.cmp .neq (.tmp 206) (.tmp 207)), (some (204, true))⟩ (.take ⟨(some 209), (.mv (.tmp 208)), (some (204, true))⟩ (.take ⟨(some 210), (.mv (.tmp 17)), (some (209, false))⟩ (.take ⟨(some 211), (.ldn 5 (.tmp 20)), (some (209, false))⟩ (.take ⟨(some 213), (.ldn 5 (.tmp 20)), (some (209, false))⟩ (.alt false ⟨(some 212), (.call 18 [(.tmp 211)]), (some (209, false))⟩ (.alt false ⟨(some 214), (.call 16 [(.tmp 213)]), (some (209, false))⟩ (.alt false ⟨(some 215), (.call 17 [(.tmp 210), (.tmp 212), (.tmp 214)]), (some (209, false))⟩ (.take ⟨(some 216), (.nt (.tmp 215)), (some (209, false))⟩ (.take ⟨(some 217), (.pick (.tmp 209) (.const (.bool true)) (.tmp 216)), (some (204, true))⟩ (.take ⟨(some 218), (.pick (.tmp 204) (.tmp 217) (.const (.bool false))), none⟩ .done))) .stop) .stop) .stop)))))) .stop))))))
    (.cond (.tmp 218)
    (.seq (.reg [⟨(some 6), (.mv (.const (.bool false))), none⟩]) .ret) .skip))
    (.seq (.reg [⟨(some 219), (.mv (.tmp 21)), none⟩])
    (.cond (.tmp 219)
    (.reg [⟨(some 220), (.mv (.tmp 18)), none⟩, ⟨(some 221), (.ar .add (.tmp 220) (.const (.int .i64 1))), none⟩, ⟨(some 18), (.mv (.tmp 221)), none⟩]) .skip)))))))
    (.reg [⟨(some 158), (.mv (.tmp 19)), none⟩, ⟨(some 159), (.ar .add (.tmp 158) (.const (.int .i64 1))), none⟩, ⟨(some 19), (.mv (.tmp 159)), none⟩]))))))
    (.seq (.draw (.take ⟨(some 222), (.ldn 3 (.tmp 8)), none⟩ (.take ⟨(some 223), (.mv (.tmp 9)), none⟩ (.alt false ⟨(some 224), (.call 20 [(.tmp 223)]), none⟩ (.alt false ⟨(some 225), (.call 19 [(.tmp 222), (.tmp 224)]), none⟩ (.take ⟨(some 24), (.mv (.tmp 225)), none⟩ .done) .stop) .stop))))
    (.seq (.seq
    (.draw (.take ⟨(some 226), (.mv (.tmp 24)), none⟩ (.take ⟨(some 227), (.len (.tmp 226)), none⟩ (.take ⟨(some 228), (.mv (.tmp 18)), none⟩ (.take ⟨(some 229), (.cmp .neq (.tmp 227) (.tmp 228)), none⟩ (.take ⟨(some 230), (.mv (.tmp 229)), none⟩ (.take ⟨(some 231), (.ldn 3 (.tmp 8)), (some (230, false))⟩ (.take ⟨(some 232), (.mv (.tmp 9)), (some (230, false))⟩ (.alt false ⟨(some 233), (.call 20 [(.tmp 232)]), (some (230, false))⟩ (.alt false ⟨(some 234), (.call 21 [(.tmp 231), (.tmp 233)]), (some (230, false))⟩ (.take ⟨(some 235), (.nt (.tmp 234)), (some (230, false))⟩ (.take ⟨(some 236), (.pick (.tmp 230) (.const (.bool true)) (.tmp 235)), none⟩ (.take ⟨(some 237), (.mv (.tmp 236)), none⟩ (.take ⟨(some 238), (.mv (.tmp 18)), (some (237, false))⟩ (.take ⟨(some 239), (.cmp .eql (.tmp 238) (.const (.int .i64 0))), (some (237, false))⟩ (.take ⟨(some 240), (.mv (.tmp 239)), (some (237, false))⟩ (.take ⟨(some 241), (.fad 0 (.tmp 8)), (some (240, true))⟩ (.take ⟨(some 242), (.ld1 (.tmp 241)), (some (240, true))⟩ (.take ⟨(some 243), (.cmp .eql (.tmp 242) (.const (.int .i64 8))), (some (240, true))⟩ (.take ⟨(some 244), (.pick (.tmp 240) (.tmp 243) (.const (.bool false))), (some (237, false))⟩ (.take ⟨(some 245), (.pick (.tmp 237) (.const (.bool true)) (.tmp 244)), none⟩ .done))))))))))) .stop) .stop)))))))))
    (.cond (.tmp 245)
    (.seq (.reg [⟨(some 6), (.mv (.const (.bool false))), none⟩]) .ret) .skip))
    (.seq (.seq
    (.reg [⟨(some 25), (.mv (.const (.int .i64 0))), none⟩])
    (.block 7
    (.loop (.seq
    (.seq (.reg [⟨(some 246), (.mv (.tmp 25)), none⟩, ⟨(some 247), (.mv (.tmp 24)), none⟩, ⟨(some 248), (.len (.tmp 247)), none⟩, ⟨(some 249), (.cmp .lss (.tmp 246) (.tmp 248)), none⟩])
    (.cond (.tmp 249) .skip (.exit 7)))
    (.seq (.block 8
    (.seq (.reg [⟨(some 252), (.mv (.tmp 24)), none⟩, ⟨(some 253), (.mv (.tmp 25)), none⟩, ⟨(some 254), (.iad 2 (.tmp 252) (.tmp 253)), none⟩, ⟨(some 255), (.iadA 2 1 (.tmp 254) (.const (.int .i64 0))), none⟩, ⟨(some 256), (.ld1 (.tmp 255)), none⟩, ⟨(some 257), (.mv (.tmp 17)), none⟩, ⟨(some 258), (.nilck (.tmp 257)), none⟩, ⟨(some 259), (.fad 0 (.tmp 258)), none⟩, ⟨(some 260), (.ld1 (.tmp 259)), none⟩, ⟨(some 261), (.mv (.tmp 25)), none⟩, ⟨(some 262), (.iad 2 (.tmp 260) (.tmp 261)), none⟩, ⟨(some 263), (.fad 0 (.tmp 262)), none⟩, ⟨(some 264), (.ld1 (.tmp 263)), none⟩, ⟨(some 265), (.cmp .neq (.tmp 256) (.tmp 264)), none⟩, ⟨(some 266), (.mv (.tmp 265)), none⟩, ⟨(some 267), (.mv (.tmp 24)), (some (266, false))⟩, ⟨(some 268), (.mv (.tmp 25)), (some (266, false))⟩, ⟨(some 269), (.iad 2 (.tmp 267) (.tmp 268)), (some (266, false))⟩, ⟨(some 270), (.iadA 2 1 (.tmp 269) (.const (.int .i64 1))), (some (266, false))⟩, ⟨(some 271), (.ld1 (.tmp 270)), (some (266, false))⟩, ⟨(some 272), (.mv (.tmp 17)), (some (266, false))⟩, ⟨(some 273), (.nilck (.tmp 272)), (some (266, false))⟩, ⟨(some 274), (.fad 0 (.tmp 273)), (some (266, false))⟩, ⟨(some 275), (.ld1 (.tmp 274)), (some (266, false))⟩, ⟨(some 276), (.mv (.tmp 25)), (some (266, false))⟩, ⟨(some 277), (.iad 2 (.tmp 275) (.tmp 276)), (some (266, false))⟩, ⟨(some 278), (.fad 1 (.tmp 277)), (some (266, false))⟩, ⟨(some 279), (.ld1 (.tmp 278)), (some (266, false))⟩, ⟨(some 280), (.cmp .neq (.tmp 271) (.tmp 279)), (some (266, false))⟩, ⟨(some 281), (.pick (.tmp 266) (.const (.bool true)) (.tmp 280)), none⟩])
    (.cond (.tmp 281)
    (.seq (.reg [⟨(some 6), (.mv (.const (.bool false))), none⟩]) .ret) .skip)))
    (.reg [⟨(some 250), (.mv (.tmp 25)), none⟩, ⟨(some 251), (.ar .add (.tmp 250) (.const (.int .i64 1))), none⟩, ⟨(some 25), (.mv (.tmp 251)), none⟩]))))))
    (.seq (.reg [⟨(some 6), (.mv (.const (.bool true))), none⟩]) .ret))))))))))))))))))⟩ := by kernel_rfl

/-- allotment/allotmentlaw15.awake -/
theorem tr4 : trF Tryz.prog pures Tryz.f4 = some
  ⟨69, [(.t 0)],
    (.seq (.reg [⟨(some 0), (.mv (.const (.bool false))), none⟩])
    (.seq (.reg [⟨(some 7), (.bld #[(.int .i64 0), (.int .i64 0), (.int .i64 0)] [(0, (1, (.const (.int .i64 1)))), (1, (1, (.const (.int .i64 1))))]), none⟩, ⟨(some 1), (.alc 26 (.agg #[(.int .i64 0), (.int .i64 0), (.int .i64 0)])), none⟩, ⟨none, (.stn 3 (.tmp 1) (.tmp 7)), none⟩])
    (.seq (.reg [⟨(some 8), (.ldn 3 (.tmp 1)), none⟩, ⟨(some 9), (.pcall 6 [(.tmp 8)]), none⟩, ⟨(some 10), (.mks 60 8 (.int .u64 0) (.tmp 9) (.tmp 9)), none⟩, ⟨(some 11), (.call 5 [(.tmp 10)]), none⟩, ⟨(some 2), (.mv (.tmp 11)), none⟩])
    (.seq (.reg [⟨(some 12), (.ldn 3 (.tmp 1)), none⟩, ⟨(some 13), (.call 7 [(.tmp 12), (.const (.int .i64 0)), (.const (.int .i64 64)), (.const (.int .i64 0))]), none⟩, ⟨(some 3), (.mv (.tmp 13)), none⟩])
    (.seq (.seq
    (.reg [⟨(some 14), (.mv (.tmp 2)), none⟩, ⟨(some 15), (.pnil false (.tmp 14)), none⟩, ⟨(some 16), (.mv (.tmp 15)), none⟩, ⟨(some 17), (.mv (.tmp 3)), (some (16, false))⟩, ⟨(some 18), (.pnil false (.tmp 17)), (some (16, false))⟩, ⟨(some 19), (.pick (.tmp 16) (.const (.bool true)) (.tmp 18)), none⟩])
    (.cond (.tmp 19)
    (.seq (.reg [⟨(some 0), (.mv (.const (.bool false))), none⟩]) .ret) .skip))
    (.seq (.reg [⟨(some 20), (.mv (.tmp 3)), none⟩, ⟨(some 21), (.mv (.tmp 2)), none⟩, ⟨(some 22), (.call 12 [(.tmp 20), (.tmp 21)]), none⟩])
    (.seq (.reg [⟨(some 23), (.mv (.tmp 3)), none⟩, ⟨(some 24), (.mv (.tmp 2)), none⟩, ⟨(some 25), (.call 12 [(.tmp 23), (.tmp 24)]), none⟩])
    (.seq (.reg [⟨(some 27), (.mv (.tmp 3)), none⟩, ⟨(some 28), (.call 8 [(.tmp 27)]), none⟩, ⟨(some 26), (.mv (.tmp 28)), none⟩, ⟨(some 29), (.ext 0 (.tmp 26)), none⟩, ⟨(some 30), (.ext 1 (.tmp 26)), none⟩, ⟨(some 4), (.alc 37 (.agg #[(.bool false), (.int .i64 0), (.int .i64 0), (.int .i64 0), (.int .i64 0)])), none⟩, ⟨none, (.stn 5 (.tmp 4) (.tmp 29)), none⟩, ⟨(some 5), (.mv (.tmp 30)), none⟩])
    (.seq (.reg [⟨(some 31), (.ldn 3 (.tmp 1)), none⟩, ⟨(some 32), (.ldn 5 (.tmp 4)), none⟩, ⟨(some 33), (.call 11 [(.tmp 31), (.const (.int .i64 0)), (.tmp 32)]), none⟩, ⟨(some 6), (.mv (.tmp 33)), none⟩])
    (.seq (.seq
    (.reg [⟨(some 34), (.mv (.tmp 6)), none⟩, ⟨(some 35), (.pnil false (.tmp 34)), none⟩])
    (.cond (.tmp 35)
    (.seq (.reg [⟨(some 0), (.mv (.const (.bool false))), none⟩]) .ret) .skip))
    (.seq (.reg [⟨(some 36), (.mv (.tmp 6)), none⟩, ⟨(some 37), (.mv (.tmp 2)), none⟩, ⟨(some 38), (.call 9 [(.tmp 36), (.tmp 37)]), none⟩])
    (.seq (.reg [⟨(some 39), (.mv (.tmp 3)), none⟩, ⟨(some 40), (.call 10 [(.tmp 39)]), none⟩, ⟨(some 41), (.mv (.tmp 40)), none⟩, ⟨(some 42), (.mv (.tmp 5)), (some (41, true))⟩, ⟨(some 43), (.pick (.tmp 41) (.tmp 42) (.const (.bool false))), none⟩, ⟨(some 44), (.mv (.tmp 43)), none⟩, ⟨(some 45), (.fad 0 (.tmp 4)), (some (44, true))⟩, ⟨(some 46), (.ld1 (.tmp 45)), (some (44, true))⟩, ⟨(some 47), (.pick (.tmp 44) (.tmp 46) (.const (.bool false))), none⟩, ⟨(some 48), (.mv (.tmp 47)), none⟩, ⟨(some 49), (.ldn 5 (.tmp 4)), (some (48, true))⟩, ⟨(some 50), (.call 16 [(.tmp 49)]), (some (48, true))⟩, ⟨(some 51), (.cmp .eql (.tmp 50) (.const (.int .i64 64))), (some (48, true))⟩, ⟨(some 52), (.pick (.tmp 48) (.tmp 51) (.const (.bool false))), none⟩, ⟨(some 53), (.mv (.tmp 52)), none⟩, ⟨(some 54), (.ldn 5 (.tmp 4)), (some (53, true))⟩, ⟨(some 55), (.call 18 [(.tmp 54)]), (some (53, true))⟩, ⟨(some 56), (.cmp .eql (.tmp 55) (.const (.int .i64 0))), (some (53, true))⟩, ⟨(some 57), (.pick (.tmp 53) (.tmp 56) (.const (.bool false))), none⟩, ⟨(some 58), (.mv (.tmp 57)), none⟩, ⟨(some 59), (.mv (.tmp 6)), (some (58, true))⟩, ⟨(some 60), (.call 14 [(.tmp 59)]), (some (58, true))⟩, ⟨(some 61), (.pick (.tmp 58) (.tmp 60) (.const (.bool false))), none⟩, ⟨(some 62), (.mv (.tmp 61)), none⟩, ⟨(some 63), (.mv (.tmp 2)), (some (62, true))⟩, ⟨(some 64), (.call 22 [(.tmp 63), (.const (.int .i64 1))]), (some (62, true))⟩, ⟨(some 65), (.bld #[(.int .i64 0), (.int .i64 0), (.int .i64 0)] [(0, (1, (.const (.int .i64 3)))), (1, (1, (.const (.int .i64 1))))]), (some (62, true))⟩, ⟨(some 66), (.pcall 23 [(.tmp 65)]), (some (62, true))⟩, ⟨(some 67), (.cmp .eql (.tmp 64) (.tmp 66)), (some (62, true))⟩, ⟨(some 68), (.pick (.tmp 62) (.tmp 67) (.const (.bool false))), none⟩, ⟨(some 0), (.mv (.tmp 68)), none⟩]) .ret))))))))))))⟩ := by kernel_rfl

end Go.Proofs.YtfdhilnaagpecaaGreat
