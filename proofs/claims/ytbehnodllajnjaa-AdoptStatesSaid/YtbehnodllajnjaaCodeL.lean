/-
  The compact code of functions of this seat, as translated from the model: each translation holds by reckoning. Conditions: none.
-/
import Derived.Test.YtbehnodllajnjaaCode
set_option maxRecDepth 100000
namespace Go.Proofs.Ytbehnodllajnjaa
open Go Go.Ev

/-- allotment/allotmentlaw14.RunRows -/
theorem tr3 : trF Try.prog pures Try.f3 = some
  ⟨208, [(.t 4)],
    (.seq (.reg [⟨(some 4), (.mv (.const (.bool false))), none⟩])
    (.seq (.seq
    (.reg [⟨(some 20), (.call 15 []), none⟩, ⟨(some 21), (.nt (.tmp 20)), none⟩])
    (.cond (.tmp 21)
    (.seq (.reg [⟨(some 4), (.mv (.const (.bool false))), none⟩]) .ret) .skip))
    (.seq (.seq
    (.reg [⟨(some 22), (.mv (.tmp 0)), none⟩, ⟨(some 23), (.len (.tmp 22)), none⟩, ⟨(some 24), (.cmp .eql (.tmp 23) (.const (.int .i64 0))), none⟩, ⟨(some 25), (.mv (.tmp 24)), none⟩, ⟨(some 26), (.mv (.tmp 0)), (some (25, false))⟩, ⟨(some 27), (.len (.tmp 26)), (some (25, false))⟩, ⟨(some 28), (.cmp .gtr (.tmp 27) (.const (.int .i64 20))), (some (25, false))⟩, ⟨(some 29), (.pick (.tmp 25) (.const (.bool true)) (.tmp 28)), none⟩])
    (.cond (.tmp 29)
    (.seq (.reg [⟨(some 4), (.mv (.const (.bool true))), none⟩]) .ret) .skip))
    (.seq (.reg [⟨(some 30), (.mv (.tmp 1)), none⟩, ⟨(some 31), (.cv .i64 (.tmp 30)), none⟩, ⟨(some 32), (.dv .rem (.tmp 31) (.const (.int .i64 8))), none⟩, ⟨(some 33), (.ar .add (.const (.int .i64 1)) (.tmp 32)), none⟩, ⟨(some 5), (.mv (.tmp 33)), none⟩])
    (.seq (.reg [⟨(some 34), (.mv (.tmp 0)), none⟩, ⟨(some 35), (.len (.tmp 34)), none⟩, ⟨(some 36), (.bld #[(.int .i64 0), (.int .i64 0), (.int .i64 0)] [(0, (1, (.tmp 35))), (1, (1, (.const (.int .i64 1))))]), none⟩, ⟨(some 6), (.alc 25 (.agg #[(.int .i64 0), (.int .i64 0), (.int .i64 0)])), none⟩, ⟨none, (.stn 3 (.tmp 6) (.tmp 36)), none⟩])
    (.seq (.reg [⟨(some 37), (.ldn 3 (.tmp 6)), none⟩, ⟨(some 38), (.pcall 16 [(.tmp 37)]), none⟩, ⟨(some 39), (.mks 29 8 (.int .u64 0) (.tmp 38) (.tmp 38)), none⟩, ⟨(some 7), (.mv (.tmp 39)), none⟩])
    (.seq (.reg [⟨(some 8), (.mv (.const (.int .i64 (-1)))), none⟩, ⟨(some 9), (.mv (.const (.int .i64 0))), none⟩])
    (.seq (.seq
    (.reg [⟨(some 10), (.mv (.const (.int .i64 0))), none⟩])
    (.block 0
    (.loop (.seq
    (.seq (.reg [⟨(some 40), (.mv (.tmp 10)), none⟩, ⟨(some 41), (.fad 0 (.tmp 6)), none⟩, ⟨(some 42), (.ld1 (.tmp 41)), none⟩, ⟨(some 43), (.cmp .lss (.tmp 40) (.tmp 42)), none⟩])
    (.cond (.tmp 43) .skip (.exit 0)))
    (.seq (.block 1
    (.seq (.reg [⟨(some 46), (.mv (.tmp 9)), none⟩, ⟨(some 47), (.ar .add (.tmp 46) (.const (.int .i64 1))), none⟩, ⟨(some 9), (.mv (.tmp 47)), none⟩])
    (.seq (.reg [⟨(some 48), (.mv (.tmp 0)), none⟩, ⟨(some 49), (.mv (.tmp 10)), none⟩, ⟨(some 50), (.iad 1 (.tmp 48) (.tmp 49)), none⟩, ⟨(some 51), (.ld1 (.tmp 50)), none⟩, ⟨(some 52), (.sh .shr (.tmp 51) (.const (.int .u64 2))), none⟩, ⟨(some 53), (.cv .i64 (.tmp 52)), none⟩, ⟨(some 54), (.dv .rem (.tmp 53) (.const (.int .i64 4))), none⟩, ⟨(some 11), (.mv (.tmp 54)), none⟩])
    (.seq (.seq
    (.reg [⟨(some 55), (.mv (.tmp 0)), none⟩, ⟨(some 56), (.mv (.tmp 10)), none⟩, ⟨(some 57), (.iad 1 (.tmp 55) (.tmp 56)), none⟩, ⟨(some 58), (.ld1 (.tmp 57)), none⟩, ⟨(some 59), (.bt .and (.tmp 58) (.const (.int .u8 3))), none⟩])
    (.block 2
    (.seq (.reg [⟨(some 61), (.cmp .eql (.tmp 59) (.const (.int .u8 0))), none⟩, ⟨(some 60), (.mv (.tmp 61)), none⟩])
    (.cond (.tmp 60)
    (.seq (.reg [⟨(some 62), (.mv (.tmp 7)), none⟩, ⟨(some 63), (.ldn 3 (.tmp 6)), none⟩, ⟨(some 64), (.mv (.tmp 10)), none⟩, ⟨(some 65), (.pcall 18 [(.tmp 63), (.tmp 64)]), none⟩, ⟨(some 66), (.bld #[(.int .i64 0), (.int .i64 0), (.int .i64 0)] [(0, (1, (.const (.int .i64 3)))), (1, (1, (.const (.int .i64 1))))]), none⟩, ⟨(some 67), (.pcall 17 [(.tmp 66)]), none⟩, ⟨(some 68), (.iad 1 (.tmp 62) (.tmp 65)), none⟩, ⟨none, (.st1 (.tmp 68) (.tmp 67)), none⟩])
    (.reg [⟨(some 9), (.mv (.const (.int .i64 0))), none⟩]))
    (.seq (.reg [⟨(some 70), (.cmp .eql (.tmp 59) (.const (.int .u8 1))), none⟩, ⟨(some 69), (.mv (.tmp 70)), none⟩])
    (.cond (.tmp 69)
    (.seq (.reg [⟨(some 71), (.mv (.tmp 7)), none⟩, ⟨(some 72), (.ldn 3 (.tmp 6)), none⟩, ⟨(some 73), (.mv (.tmp 10)), none⟩, ⟨(some 74), (.pcall 18 [(.tmp 72), (.tmp 73)]), none⟩, ⟨(some 75), (.mv (.tmp 11)), none⟩, ⟨(some 76), (.bld #[(.int .i64 0), (.int .i64 0), (.int .i64 0)] [(0, (1, (.const (.int .i64 2)))), (1, (1, (.tmp 75)))]), none⟩, ⟨(some 77), (.pcall 17 [(.tmp 76)]), none⟩, ⟨(some 78), (.iad 1 (.tmp 71) (.tmp 74)), none⟩, ⟨none, (.st1 (.tmp 78) (.tmp 77)), none⟩])
    (.seq (.reg [⟨(some 12), (.mv (.const (.int .i64 0))), none⟩])
    (.block 3
    (.loop (.seq
    (.seq (.reg [⟨(some 79), (.mv (.tmp 12)), none⟩, ⟨(some 80), (.mv (.tmp 11)), none⟩, ⟨(some 81), (.pcall 19 [(.tmp 80)]), none⟩, ⟨(some 82), (.cmp .lss (.tmp 79) (.tmp 81)), none⟩])
    (.cond (.tmp 82) .skip (.exit 3)))
    (.seq (.block 4
    (.reg [⟨(some 85), (.mv (.tmp 7)), none⟩, ⟨(some 86), (.ldn 3 (.tmp 6)), none⟩, ⟨(some 87), (.mv (.tmp 10)), none⟩, ⟨(some 88), (.mv (.tmp 12)), none⟩, ⟨(some 89), (.pcall 21 [(.tmp 86), (.tmp 87), (.tmp 88)]), none⟩, ⟨(some 90), (.mv (.tmp 11)), none⟩, ⟨(some 91), (.bld #[(.int .i64 0), (.int .i64 0)] [(0, (1, (.const (.int .i64 1)))), (1, (1, (.tmp 90)))]), none⟩, ⟨(some 92), (.pcall 20 [(.tmp 91)]), none⟩, ⟨(some 93), (.iad 1 (.tmp 85) (.tmp 89)), none⟩, ⟨none, (.st1 (.tmp 93) (.tmp 92)), none⟩]))
    (.reg [⟨(some 83), (.mv (.tmp 12)), none⟩, ⟨(some 84), (.ar .add (.tmp 83) (.const (.int .i64 1))), none⟩, ⟨(some 12), (.mv (.tmp 84)), none⟩]))))))) .skip))))))
    (.seq (.reg [⟨(some 94), (.mv (.tmp 9)), none⟩, ⟨(some 95), (.mv (.tmp 5)), none⟩, ⟨(some 96), (.cmp .eql (.tmp 94) (.tmp 95)), none⟩, ⟨(some 97), (.mv (.tmp 96)), none⟩, ⟨(some 98), (.mv (.tmp 8)), (some (97, true))⟩, ⟨(some 99), (.cmp .lss (.tmp 98) (.const (.int .i64 0))), (some (97, true))⟩, ⟨(some 100), (.pick (.tmp 97) (.tmp 99) (.const (.bool false))), none⟩])
    (.cond (.tmp 100)
    (.reg [⟨(some 101), (.mv (.tmp 10)), none⟩, ⟨(some 102), (.mv (.tmp 5)), none⟩, ⟨(some 103), (.ar .sub (.tmp 101) (.tmp 102)), none⟩, ⟨(some 104), (.ar .add (.tmp 103) (.const (.int .i64 1))), none⟩, ⟨(some 8), (.mv (.tmp 104)), none⟩]) .skip))))))
    (.reg [⟨(some 44), (.mv (.tmp 10)), none⟩, ⟨(some 45), (.ar .add (.tmp 44) (.const (.int .i64 1))), none⟩, ⟨(some 10), (.mv (.tmp 45)), none⟩]))))))
    (.seq (.reg [⟨(some 105), (.mv (.tmp 7)), none⟩, ⟨(some 106), (.call 22 [(.tmp 105)]), none⟩, ⟨(some 13), (.mv (.tmp 106)), none⟩])
    (.seq (.reg [⟨(some 107), (.ldn 3 (.tmp 6)), none⟩, ⟨(some 108), (.mv (.tmp 5)), none⟩, ⟨(some 109), (.call 23 [(.tmp 107), (.const (.int .i64 0)), (.tmp 108)]), none⟩, ⟨(some 14), (.mv (.tmp 109)), none⟩])
    (.seq (.seq
    (.reg [⟨(some 110), (.mv (.tmp 13)), none⟩, ⟨(some 111), (.pnil false (.tmp 110)), none⟩, ⟨(some 112), (.mv (.tmp 111)), none⟩, ⟨(some 113), (.mv (.tmp 14)), (some (112, false))⟩, ⟨(some 114), (.pnil false (.tmp 113)), (some (112, false))⟩, ⟨(some 115), (.pick (.tmp 112) (.const (.bool true)) (.tmp 114)), none⟩])
    (.cond (.tmp 115)
    (.seq (.reg [⟨(some 4), (.mv (.const (.bool false))), none⟩]) .ret) .skip))
    (.seq (.seq
    (.reg [⟨(some 15), (.mv (.const (.int .i64 0))), none⟩])
    (.block 5
    (.loop (.seq
    (.seq (.reg [⟨(some 116), (.mv (.tmp 15)), none⟩, ⟨(some 117), (.cmp .lss (.tmp 116) (.const (.int .i64 2000))), none⟩])
    (.cond (.tmp 117) .skip (.exit 5)))
    (.seq (.block 6
    (.reg [⟨(some 120), (.mv (.tmp 14)), none⟩, ⟨(some 121), (.mv (.tmp 13)), none⟩, ⟨(some 122), (.call 24 [(.tmp 120), (.tmp 121)]), none⟩]))
    (.reg [⟨(some 118), (.mv (.tmp 15)), none⟩, ⟨(some 119), (.ar .add (.tmp 118) (.const (.int .i64 1))), none⟩, ⟨(some 15), (.mv (.tmp 119)), none⟩]))))))
    (.seq (.reg [⟨(some 124), (.mv (.tmp 14)), none⟩, ⟨(some 125), (.call 25 [(.tmp 124)]), none⟩, ⟨(some 123), (.mv (.tmp 125)), none⟩, ⟨(some 126), (.ext 0 (.tmp 123)), none⟩, ⟨(some 127), (.ext 1 (.tmp 123)), none⟩, ⟨(some 16), (.mv (.tmp 126)), none⟩, ⟨(some 17), (.mv (.tmp 127)), none⟩])
    (.seq (.seq
    (.reg [⟨(some 128), (.mv (.tmp 14)), none⟩, ⟨(some 129), (.call 26 [(.tmp 128)]), none⟩, ⟨(some 130), (.nt (.tmp 129)), none⟩, ⟨(some 131), (.mv (.tmp 130)), none⟩, ⟨(some 132), (.mv (.tmp 17)), (some (131, false))⟩, ⟨(some 133), (.mv (.tmp 8)), (some (131, false))⟩, ⟨(some 134), (.cmp .geq (.tmp 133) (.const (.int .i64 0))), (some (131, false))⟩, ⟨(some 135), (.beq true (.tmp 132) (.tmp 134)), (some (131, false))⟩, ⟨(some 136), (.pick (.tmp 131) (.const (.bool true)) (.tmp 135)), none⟩, ⟨(some 137), (.mv (.tmp 136)), none⟩, ⟨(some 138), (.mv (.tmp 17)), (some (137, false))⟩, ⟨(some 139), (.mv (.tmp 138)), (some (137, false))⟩, ⟨(some 140), (.mv (.tmp 16)), (some (139, true))⟩, ⟨(some 141), (.mv (.tmp 8)), (some (139, true))⟩, ⟨(some 142), (.cmp .neq (.tmp 140) (.tmp 141)), (some (139, true))⟩, ⟨(some 143), (.pick (.tmp 139) (.tmp 142) (.const (.bool false))), (some (137, false))⟩, ⟨(some 144), (.pick (.tmp 137) (.const (.bool true)) (.tmp 143)), none⟩])
    (.cond (.tmp 144)
    (.seq (.reg [⟨(some 4), (.mv (.const (.bool false))), none⟩]) .ret) .skip))
    (.seq (.seq
    (.reg [⟨(some 18), (.mv (.const (.int .i64 0))), none⟩])
    (.block 7
    (.loop (.seq
    (.seq (.reg [⟨(some 145), (.mv (.tmp 18)), none⟩, ⟨(some 146), (.fad 0 (.tmp 6)), none⟩, ⟨(some 147), (.ld1 (.tmp 146)), none⟩, ⟨(some 148), (.cmp .lss (.tmp 145) (.tmp 147)), none⟩])
    (.cond (.tmp 148) .skip (.exit 7)))
    (.seq (.block 8
    (.seq (.reg [⟨(some 151), (.mv (.tmp 13)), none⟩, ⟨(some 152), (.ldn 3 (.tmp 6)), none⟩, ⟨(some 153), (.mv (.tmp 18)), none⟩, ⟨(some 154), (.pcall 18 [(.tmp 152), (.tmp 153)]), none⟩, ⟨(some 155), (.call 27 [(.tmp 151), (.tmp 154)]), none⟩, ⟨(some 19), (.mv (.tmp 155)), none⟩])
    (.block 9
    (.seq (.reg [⟨(some 157), (.mv (.tmp 17)), none⟩, ⟨(some 158), (.mv (.tmp 157)), none⟩, ⟨(some 159), (.mv (.tmp 18)), (some (158, true))⟩, ⟨(some 160), (.mv (.tmp 8)), (some (158, true))⟩, ⟨(some 161), (.cmp .eql (.tmp 159) (.tmp 160)), (some (158, true))⟩, ⟨(some 162), (.pick (.tmp 158) (.tmp 161) (.const (.bool false))), none⟩, ⟨(some 156), (.mv (.tmp 162)), none⟩])
    (.cond (.tmp 156)
    (.seq (.reg [⟨(some 163), (.mv (.tmp 19)), none⟩, ⟨(some 164), (.bld #[(.int .i64 0), (.int .i64 0), (.int .i64 0)] [(0, (1, (.const (.int .i64 1))))]), none⟩, ⟨(some 165), (.pcall 17 [(.tmp 164)]), none⟩, ⟨(some 166), (.cmp .neq (.tmp 163) (.tmp 165)), none⟩])
    (.cond (.tmp 166)
    (.seq (.reg [⟨(some 4), (.mv (.const (.bool false))), none⟩]) .ret) .skip))
    (.seq (.reg [⟨(some 168), (.mv (.tmp 17)), none⟩, ⟨(some 169), (.mv (.tmp 168)), none⟩, ⟨(some 170), (.mv (.tmp 18)), (some (169, true))⟩, ⟨(some 171), (.mv (.tmp 8)), (some (169, true))⟩, ⟨(some 172), (.cmp .gtr (.tmp 170) (.tmp 171)), (some (169, true))⟩, ⟨(some 173), (.pick (.tmp 169) (.tmp 172) (.const (.bool false))), none⟩, ⟨(some 174), (.mv (.tmp 173)), none⟩, ⟨(some 175), (.mv (.tmp 18)), (some (174, true))⟩, ⟨(some 176), (.mv (.tmp 8)), (some (174, true))⟩, ⟨(some 177), (.mv (.tmp 5)), (some (174, true))⟩, ⟨(some 178), (.ar .add (.tmp 176) (.tmp 177)), (some (174, true))⟩, ⟨(some 179), (.cmp .lss (.tmp 175) (.tmp 178)), (some (174, true))⟩, ⟨(some 180), (.pick (.tmp 174) (.tmp 179) (.const (.bool false))), none⟩, ⟨(some 167), (.mv (.tmp 180)), none⟩])
    (.cond (.tmp 167)
    (.seq (.reg [⟨(some 181), (.mv (.tmp 19)), none⟩, ⟨(some 182), (.mv (.tmp 8)), none⟩, ⟨(some 183), (.bld #[(.int .i64 0), (.int .i64 0), (.int .i64 0)] [(0, (1, (.const (.int .i64 4)))), (1, (1, (.tmp 182)))]), none⟩, ⟨(some 184), (.pcall 17 [(.tmp 183)]), none⟩, ⟨(some 185), (.cmp .neq (.tmp 181) (.tmp 184)), none⟩])
    (.cond (.tmp 185)
    (.seq (.reg [⟨(some 4), (.mv (.const (.bool false))), none⟩]) .ret) .skip))
    (.seq (.reg [⟨(some 187), (.mv (.tmp 19)), none⟩, ⟨(some 188), (.mv (.tmp 7)), none⟩, ⟨(some 189), (.ldn 3 (.tmp 6)), none⟩, ⟨(some 190), (.mv (.tmp 18)), none⟩, ⟨(some 191), (.pcall 18 [(.tmp 189), (.tmp 190)]), none⟩, ⟨(some 192), (.iad 1 (.tmp 188) (.tmp 191)), none⟩, ⟨(some 193), (.ld1 (.tmp 192)), none⟩, ⟨(some 194), (.cmp .neq (.tmp 187) (.tmp 193)), none⟩, ⟨(some 195), (.mv (.tmp 194)), none⟩, ⟨(some 196), (.mv (.tmp 19)), (some (195, true))⟩, ⟨(some 197), (.cmp .eql (.tmp 196) (.const (.int .u64 0))), (some (195, true))⟩, ⟨(some 198), (.mv (.tmp 197)), (some (195, true))⟩, ⟨(some 199), (.mv (.tmp 0)), (some (198, true))⟩, ⟨(some 200), (.mv (.tmp 18)), (some (198, true))⟩, ⟨(some 201), (.iad 1 (.tmp 199) (.tmp 200)), (some (198, true))⟩, ⟨(some 202), (.ld1 (.tmp 201)), (some (198, true))⟩, ⟨(some 203), (.bt .and (.tmp 202) (.const (.int .u8 3))), (some (198, true))⟩, ⟨(some 204), (.cmp .eql (.tmp 203) (.const (.int .u8 1))), (some (198, true))⟩, ⟨(some 205), (.pick (.tmp 198) (.tmp 204) (.const (.bool false))), (some (195, true))⟩, ⟨(some 206), (.nt (.tmp 205)), (some (195, true))⟩, ⟨(some 207), (.pick (.tmp 195) (.tmp 206) (.const (.bool false))), none⟩, ⟨(some 186), (.mv (.tmp 207)), none⟩])
    (.cond (.tmp 186)
    (.seq (.reg [⟨(some 4), (.mv (.const (.bool false))), none⟩]) .ret) .skip)))))))))
    (.reg [⟨(some 149), (.mv (.tmp 18)), none⟩, ⟨(some 150), (.ar .add (.tmp 149) (.const (.int .i64 1))), none⟩, ⟨(some 18), (.mv (.tmp 150)), none⟩]))))))
    (.seq (.reg [⟨(some 4), (.mv (.const (.bool true))), none⟩]) .ret))))))))))))))))⟩ := by kernel_rfl

/-- allotment/allotmentlaw14.RunTwo -/
theorem tr4 : trF Try.prog pures Try.f4 = some
  ⟨220, [(.t 6)],
    (.seq (.reg [⟨(some 4), (.box 48 (.tmp 1)), none⟩, ⟨(some 6), (.mv (.const (.bool false))), none⟩])
    (.seq (.seq
    (.reg [⟨(some 22), (.call 15 []), none⟩, ⟨(some 23), (.nt (.tmp 22)), none⟩])
    (.cond (.tmp 23)
    (.seq (.reg [⟨(some 6), (.mv (.const (.bool false))), none⟩]) .ret) .skip))
    (.seq (.reg [⟨(some 24), (.mv (.tmp 0)), none⟩, ⟨(some 25), (.cv .i64 (.tmp 24)), none⟩, ⟨(some 26), (.dv .rem (.tmp 25) (.const (.int .i64 10))), none⟩, ⟨(some 27), (.ar .add (.const (.int .i64 1)) (.tmp 26)), none⟩, ⟨(some 28), (.bld #[(.int .i64 0), (.int .i64 0), (.int .i64 0)] [(0, (1, (.tmp 27))), (1, (1, (.const (.int .i64 2))))]), none⟩, ⟨(some 7), (.alc 25 (.agg #[(.int .i64 0), (.int .i64 0), (.int .i64 0)])), none⟩, ⟨none, (.stn 3 (.tmp 7) (.tmp 28)), none⟩])
    (.seq (.reg [⟨(some 29), (.ldn 3 (.tmp 7)), none⟩, ⟨(some 30), (.pcall 16 [(.tmp 29)]), none⟩, ⟨(some 31), (.mks 29 8 (.int .u64 0) (.tmp 30) (.tmp 30)), none⟩, ⟨(some 32), (.call 22 [(.tmp 31)]), none⟩, ⟨(some 8), (.mv (.tmp 32)), none⟩])
    (.seq (.reg [⟨(some 33), (.iadA 2 1 (.tmp 4) (.const (.int .i64 0))), none⟩, ⟨(some 34), (.ld1 (.tmp 33)), none⟩, ⟨(some 35), (.cv .i64 (.tmp 34)), none⟩, ⟨(some 36), (.dv .rem (.tmp 35) (.const (.int .i64 8))), none⟩, ⟨(some 37), (.ar .add (.const (.int .i64 1)) (.tmp 36)), none⟩, ⟨(some 38), (.iadA 2 1 (.tmp 4) (.const (.int .i64 1))), none⟩, ⟨(some 39), (.ld1 (.tmp 38)), none⟩, ⟨(some 40), (.cv .i64 (.tmp 39)), none⟩, ⟨(some 41), (.dv .rem (.tmp 40) (.const (.int .i64 8))), none⟩, ⟨(some 42), (.ar .add (.const (.int .i64 1)) (.tmp 41)), none⟩, ⟨(some 9), (.mv (.tmp 37)), none⟩, ⟨(some 10), (.mv (.tmp 42)), none⟩])
    (.seq (.draw (.take ⟨(some 43), (.ldn 3 (.tmp 7)), none⟩ (.take ⟨(some 44), (.mv (.tmp 9)), none⟩ (.take ⟨(some 46), (.ldn 3 (.tmp 7)), none⟩ (.take ⟨(some 47), (.mv (.tmp 10)), none⟩ (.alt false ⟨(some 45), (.call 23 [(.tmp 43), (.const (.int .i64 0)), (.tmp 44)]), none⟩ (.alt false ⟨(some 48), (.call 23 [(.tmp 46), (.const (.int .i64 1)), (.tmp 47)]), none⟩ (.take ⟨(some 11), (.mv (.tmp 45)), none⟩ (.take ⟨(some 12), (.mv (.tmp 48)), none⟩ .done)) .stop) .stop))))))
    (.seq (.seq
    (.reg [⟨(some 49), (.mv (.tmp 2)), none⟩, ⟨(some 50), (.len (.tmp 49)), none⟩, ⟨(some 51), (.cmp .gtr (.tmp 50) (.const (.int .i64 2000))), none⟩])
    (.cond (.tmp 51)
    (.seq (.reg [⟨(some 6), (.mv (.const (.bool true))), none⟩]) .ret) .skip))
    (.seq (.seq
    (.reg [⟨(some 52), (.mv (.tmp 8)), none⟩, ⟨(some 53), (.pnil false (.tmp 52)), none⟩, ⟨(some 54), (.mv (.tmp 53)), none⟩, ⟨(some 55), (.mv (.tmp 11)), (some (54, false))⟩, ⟨(some 56), (.pnil false (.tmp 55)), (some (54, false))⟩, ⟨(some 57), (.pick (.tmp 54) (.const (.bool true)) (.tmp 56)), none⟩, ⟨(some 58), (.mv (.tmp 57)), none⟩, ⟨(some 59), (.mv (.tmp 12)), (some (58, false))⟩, ⟨(some 60), (.pnil false (.tmp 59)), (some (58, false))⟩, ⟨(some 61), (.pick (.tmp 58) (.const (.bool true)) (.tmp 60)), none⟩])
    (.cond (.tmp 61)
    (.seq (.reg [⟨(some 6), (.mv (.const (.bool false))), none⟩]) .ret) .skip))
    (.seq (.seq
    (.reg [⟨(some 13), (.mv (.const (.int .i64 0))), none⟩])
    (.block 0
    (.loop (.seq
    (.seq (.reg [⟨(some 62), (.mv (.tmp 13)), none⟩, ⟨(some 63), (.mv (.tmp 2)), none⟩, ⟨(some 64), (.len (.tmp 63)), none⟩, ⟨(some 65), (.cmp .lss (.tmp 62) (.tmp 64)), none⟩])
    (.cond (.tmp 65) .skip (.exit 0)))
    (.seq (.block 1
    (.seq (.reg [⟨(some 68), (.mv (.tmp 2)), none⟩, ⟨(some 69), (.mv (.tmp 13)), none⟩, ⟨(some 70), (.iad 1 (.tmp 68) (.tmp 69)), none⟩, ⟨(some 71), (.ld1 (.tmp 70)), none⟩])
    (.cond (.tmp 71)
    (.reg [⟨(some 72), (.mv (.tmp 12)), none⟩, ⟨(some 73), (.mv (.tmp 8)), none⟩, ⟨(some 74), (.call 24 [(.tmp 72), (.tmp 73)]), none⟩])
    (.reg [⟨(some 75), (.mv (.tmp 11)), none⟩, ⟨(some 76), (.mv (.tmp 8)), none⟩, ⟨(some 77), (.call 24 [(.tmp 75), (.tmp 76)]), none⟩]))))
    (.reg [⟨(some 66), (.mv (.tmp 13)), none⟩, ⟨(some 67), (.ar .add (.tmp 66) (.const (.int .i64 1))), none⟩, ⟨(some 13), (.mv (.tmp 67)), none⟩]))))))
    (.seq (.seq
    (.reg [⟨(some 14), (.mv (.const (.int .i64 0))), none⟩])
    (.block 2
    (.loop (.seq
    (.seq (.reg [⟨(some 78), (.mv (.tmp 14)), none⟩, ⟨(some 79), (.fad 0 (.tmp 7)), none⟩, ⟨(some 80), (.ld1 (.tmp 79)), none⟩, ⟨(some 81), (.ar .mul (.const (.int .i64 60)) (.tmp 80)), none⟩, ⟨(some 82), (.ar .add (.tmp 81) (.const (.int .i64 20))), none⟩, ⟨(some 83), (.cmp .lss (.tmp 78) (.tmp 82)), none⟩])
    (.cond (.tmp 83) .skip (.exit 2)))
    (.seq (.block 3
    (.seq (.reg [⟨(some 86), (.mv (.tmp 11)), none⟩, ⟨(some 87), (.mv (.tmp 8)), none⟩, ⟨(some 88), (.call 24 [(.tmp 86), (.tmp 87)]), none⟩])
    (.reg [⟨(some 89), (.mv (.tmp 12)), none⟩, ⟨(some 90), (.mv (.tmp 8)), none⟩, ⟨(some 91), (.call 24 [(.tmp 89), (.tmp 90)]), none⟩])))
    (.reg [⟨(some 84), (.mv (.tmp 14)), none⟩, ⟨(some 85), (.ar .add (.tmp 84) (.const (.int .i64 1))), none⟩, ⟨(some 14), (.mv (.tmp 85)), none⟩]))))))
    (.seq (.reg [⟨(some 93), (.mv (.tmp 11)), none⟩, ⟨(some 94), (.call 25 [(.tmp 93)]), none⟩, ⟨(some 92), (.mv (.tmp 94)), none⟩, ⟨(some 95), (.ext 0 (.tmp 92)), none⟩, ⟨(some 96), (.ext 1 (.tmp 92)), none⟩, ⟨(some 15), (.mv (.tmp 95)), none⟩, ⟨(some 16), (.mv (.tmp 96)), none⟩])
    (.seq (.reg [⟨(some 98), (.mv (.tmp 12)), none⟩, ⟨(some 99), (.call 25 [(.tmp 98)]), none⟩, ⟨(some 97), (.mv (.tmp 99)), none⟩, ⟨(some 100), (.ext 0 (.tmp 97)), none⟩, ⟨(some 101), (.ext 1 (.tmp 97)), none⟩, ⟨(some 17), (.mv (.tmp 100)), none⟩, ⟨(some 18), (.mv (.tmp 101)), none⟩])
    (.seq (.seq
    (.reg [⟨(some 102), (.mv (.tmp 11)), none⟩, ⟨(some 103), (.call 26 [(.tmp 102)]), none⟩, ⟨(some 104), (.nt (.tmp 103)), none⟩, ⟨(some 105), (.mv (.tmp 104)), none⟩, ⟨(some 106), (.mv (.tmp 12)), (some (105, false))⟩, ⟨(some 107), (.call 26 [(.tmp 106)]), (some (105, false))⟩, ⟨(some 108), (.nt (.tmp 107)), (some (105, false))⟩, ⟨(some 109), (.pick (.tmp 105) (.const (.bool true)) (.tmp 108)), none⟩, ⟨(some 110), (.mv (.tmp 109)), none⟩, ⟨(some 111), (.mv (.tmp 16)), (some (110, false))⟩, ⟨(some 112), (.mv (.tmp 111)), (some (110, false))⟩, ⟨(some 113), (.mv (.tmp 18)), (some (112, true))⟩, ⟨(some 114), (.pick (.tmp 112) (.tmp 113) (.const (.bool false))), (some (110, false))⟩, ⟨(some 115), (.mv (.tmp 114)), (some (110, false))⟩, ⟨(some 116), (.mv (.tmp 15)), (some (115, true))⟩, ⟨(some 117), (.mv (.tmp 17)), (some (115, true))⟩, ⟨(some 118), (.mv (.tmp 10)), (some (115, true))⟩, ⟨(some 119), (.ar .add (.tmp 117) (.tmp 118)), (some (115, true))⟩, ⟨(some 120), (.cmp .lss (.tmp 116) (.tmp 119)), (some (115, true))⟩, ⟨(some 121), (.pick (.tmp 115) (.tmp 120) (.const (.bool false))), (some (110, false))⟩, ⟨(some 122), (.mv (.tmp 121)), (some (110, false))⟩, ⟨(some 123), (.mv (.tmp 17)), (some (122, true))⟩, ⟨(some 124), (.mv (.tmp 15)), (some (122, true))⟩, ⟨(some 125), (.mv (.tmp 9)), (some (122, true))⟩, ⟨(some 126), (.ar .add (.tmp 124) (.tmp 125)), (some (122, true))⟩, ⟨(some 127), (.cmp .lss (.tmp 123) (.tmp 126)), (some (122, true))⟩, ⟨(some 128), (.pick (.tmp 122) (.tmp 127) (.const (.bool false))), (some (110, false))⟩, ⟨(some 129), (.pick (.tmp 110) (.const (.bool true)) (.tmp 128)), none⟩])
    (.cond (.tmp 129)
    (.seq (.reg [⟨(some 6), (.mv (.const (.bool false))), none⟩]) .ret) .skip))
    (.seq (.seq
    (.reg [⟨(some 19), (.mv (.const (.int .i64 0))), none⟩])
    (.block 4
    (.loop (.seq
    (.seq (.reg [⟨(some 130), (.mv (.tmp 19)), none⟩, ⟨(some 131), (.fad 0 (.tmp 7)), none⟩, ⟨(some 132), (.ld1 (.tmp 131)), none⟩, ⟨(some 133), (.cmp .lss (.tmp 130) (.tmp 132)), none⟩])
    (.cond (.tmp 133) .skip (.exit 4)))
    (.seq (.block 5
    (.seq (.reg [⟨(some 136), (.mv (.tmp 8)), none⟩, ⟨(some 137), (.ldn 3 (.tmp 7)), none⟩, ⟨(some 138), (.mv (.tmp 19)), none⟩, ⟨(some 139), (.pcall 18 [(.tmp 137), (.tmp 138)]), none⟩, ⟨(some 140), (.call 27 [(.tmp 136), (.tmp 139)]), none⟩, ⟨(some 20), (.mv (.tmp 140)), none⟩])
    (.seq (.reg [⟨(some 21), (.mv (.const (.int .u64 0))), none⟩])
    (.seq (.block 6
    (.seq (.reg [⟨(some 142), (.mv (.tmp 16)), none⟩, ⟨(some 143), (.mv (.tmp 142)), none⟩, ⟨(some 144), (.mv (.tmp 19)), (some (143, true))⟩, ⟨(some 145), (.mv (.tmp 15)), (some (143, true))⟩, ⟨(some 146), (.cmp .eql (.tmp 144) (.tmp 145)), (some (143, true))⟩, ⟨(some 147), (.pick (.tmp 143) (.tmp 146) (.const (.bool false))), none⟩, ⟨(some 141), (.mv (.tmp 147)), none⟩])
    (.cond (.tmp 141)
    (.reg [⟨(some 148), (.bld #[(.int .i64 0), (.int .i64 0), (.int .i64 0)] [(0, (1, (.const (.int .i64 1))))]), none⟩, ⟨(some 149), (.pcall 17 [(.tmp 148)]), none⟩, ⟨(some 21), (.mv (.tmp 149)), none⟩])
    (.seq (.reg [⟨(some 151), (.mv (.tmp 16)), none⟩, ⟨(some 152), (.mv (.tmp 151)), none⟩, ⟨(some 153), (.mv (.tmp 19)), (some (152, true))⟩, ⟨(some 154), (.mv (.tmp 15)), (some (152, true))⟩, ⟨(some 155), (.cmp .gtr (.tmp 153) (.tmp 154)), (some (152, true))⟩, ⟨(some 156), (.pick (.tmp 152) (.tmp 155) (.const (.bool false))), none⟩, ⟨(some 157), (.mv (.tmp 156)), none⟩, ⟨(some 158), (.mv (.tmp 19)), (some (157, true))⟩, ⟨(some 159), (.mv (.tmp 15)), (some (157, true))⟩, ⟨(some 160), (.mv (.tmp 9)), (some (157, true))⟩, ⟨(some 161), (.ar .add (.tmp 159) (.tmp 160)), (some (157, true))⟩, ⟨(some 162), (.cmp .lss (.tmp 158) (.tmp 161)), (some (157, true))⟩, ⟨(some 163), (.pick (.tmp 157) (.tmp 162) (.const (.bool false))), none⟩, ⟨(some 150), (.mv (.tmp 163)), none⟩])
    (.cond (.tmp 150)
    (.reg [⟨(some 164), (.mv (.tmp 15)), none⟩, ⟨(some 165), (.bld #[(.int .i64 0), (.int .i64 0), (.int .i64 0)] [(0, (1, (.const (.int .i64 4)))), (1, (1, (.tmp 164)))]), none⟩, ⟨(some 166), (.pcall 17 [(.tmp 165)]), none⟩, ⟨(some 21), (.mv (.tmp 166)), none⟩])
    (.seq (.reg [⟨(some 168), (.mv (.tmp 18)), none⟩, ⟨(some 169), (.mv (.tmp 168)), none⟩, ⟨(some 170), (.mv (.tmp 19)), (some (169, true))⟩, ⟨(some 171), (.mv (.tmp 17)), (some (169, true))⟩, ⟨(some 172), (.cmp .eql (.tmp 170) (.tmp 171)), (some (169, true))⟩, ⟨(some 173), (.pick (.tmp 169) (.tmp 172) (.const (.bool false))), none⟩, ⟨(some 167), (.mv (.tmp 173)), none⟩])
    (.cond (.tmp 167)
    (.reg [⟨(some 174), (.bld #[(.int .i64 0), (.int .i64 0), (.int .i64 0)] [(0, (1, (.const (.int .i64 1)))), (1, (1, (.const (.int .i64 1))))]), none⟩, ⟨(some 175), (.pcall 17 [(.tmp 174)]), none⟩, ⟨(some 21), (.mv (.tmp 175)), none⟩])
    (.seq (.reg [⟨(some 177), (.mv (.tmp 18)), none⟩, ⟨(some 178), (.mv (.tmp 177)), none⟩, ⟨(some 179), (.mv (.tmp 19)), (some (178, true))⟩, ⟨(some 180), (.mv (.tmp 17)), (some (178, true))⟩, ⟨(some 181), (.cmp .gtr (.tmp 179) (.tmp 180)), (some (178, true))⟩, ⟨(some 182), (.pick (.tmp 178) (.tmp 181) (.const (.bool false))), none⟩, ⟨(some 183), (.mv (.tmp 182)), none⟩, ⟨(some 184), (.mv (.tmp 19)), (some (183, true))⟩, ⟨(some 185), (.mv (.tmp 17)), (some (183, true))⟩, ⟨(some 186), (.mv (.tmp 10)), (some (183, true))⟩, ⟨(some 187), (.ar .add (.tmp 185) (.tmp 186)), (some (183, true))⟩, ⟨(some 188), (.cmp .lss (.tmp 184) (.tmp 187)), (some (183, true))⟩, ⟨(some 189), (.pick (.tmp 183) (.tmp 188) (.const (.bool false))), none⟩, ⟨(some 176), (.mv (.tmp 189)), none⟩])
    (.cond (.tmp 176)
    (.reg [⟨(some 190), (.mv (.tmp 17)), none⟩, ⟨(some 191), (.bld #[(.int .i64 0), (.int .i64 0), (.int .i64 0)] [(0, (1, (.const (.int .i64 4)))), (1, (1, (.tmp 190)))]), none⟩, ⟨(some 192), (.pcall 17 [(.tmp 191)]), none⟩, ⟨(some 21), (.mv (.tmp 192)), none⟩]) .skip)))))))))
    (.seq (.reg [⟨(some 193), (.mv (.tmp 20)), none⟩, ⟨(some 194), (.mv (.tmp 21)), none⟩, ⟨(some 195), (.cmp .neq (.tmp 193) (.tmp 194)), none⟩])
    (.cond (.tmp 195)
    (.seq (.reg [⟨(some 6), (.mv (.const (.bool false))), none⟩]) .ret) .skip))))))
    (.reg [⟨(some 134), (.mv (.tmp 19)), none⟩, ⟨(some 135), (.ar .add (.tmp 134) (.const (.int .i64 1))), none⟩, ⟨(some 19), (.mv (.tmp 135)), none⟩]))))))
    (.seq (.reg [⟨(some 196), (.mv (.tmp 9)), none⟩, ⟨(some 197), (.fad 0 (.tmp 7)), none⟩, ⟨(some 198), (.ld1 (.tmp 197)), none⟩, ⟨(some 199), (.cmp .gtr (.tmp 196) (.tmp 198)), none⟩, ⟨(some 200), (.mv (.tmp 199)), none⟩, ⟨(some 201), (.mv (.tmp 10)), (some (200, false))⟩, ⟨(some 202), (.fad 0 (.tmp 7)), (some (200, false))⟩, ⟨(some 203), (.ld1 (.tmp 202)), (some (200, false))⟩, ⟨(some 204), (.cmp .gtr (.tmp 201) (.tmp 203)), (some (200, false))⟩, ⟨(some 205), (.pick (.tmp 200) (.const (.bool true)) (.tmp 204)), none⟩, ⟨(some 206), (.mv (.tmp 205)), none⟩, ⟨(some 207), (.mv (.tmp 16)), (some (206, false))⟩, ⟨(some 208), (.pick (.tmp 206) (.const (.bool true)) (.tmp 207)), none⟩, ⟨(some 209), (.mv (.tmp 208)), none⟩, ⟨(some 210), (.mv (.tmp 18)), (some (209, false))⟩, ⟨(some 211), (.pick (.tmp 209) (.const (.bool true)) (.tmp 210)), none⟩, ⟨(some 212), (.mv (.tmp 211)), none⟩, ⟨(some 213), (.mv (.tmp 9)), (some (212, false))⟩, ⟨(some 214), (.mv (.tmp 10)), (some (212, false))⟩, ⟨(some 215), (.ar .add (.tmp 213) (.tmp 214)), (some (212, false))⟩, ⟨(some 216), (.fad 0 (.tmp 7)), (some (212, false))⟩, ⟨(some 217), (.ld1 (.tmp 216)), (some (212, false))⟩, ⟨(some 218), (.cmp .gtr (.tmp 215) (.tmp 217)), (some (212, false))⟩, ⟨(some 219), (.pick (.tmp 212) (.const (.bool true)) (.tmp 218)), none⟩, ⟨(some 6), (.mv (.tmp 219)), none⟩]) .ret)))))))))))))))⟩ := by kernel_rfl

/-- allotment/allotmentlaw16.GiveTwo -/
theorem tr5 : trF Try.prog pures Try.f5 = some
  ⟨168, [(.t 6)],
    (.seq (.reg [⟨(some 6), (.mv (.const (.bool false))), none⟩])
    (.seq (.seq
    (.reg [⟨(some 21), (.call 28 []), none⟩, ⟨(some 22), (.nt (.tmp 21)), none⟩])
    (.cond (.tmp 22)
    (.seq (.reg [⟨(some 6), (.mv (.const (.bool false))), none⟩]) .ret) .skip))
    (.seq (.reg [⟨(some 23), (.mv (.tmp 0)), none⟩, ⟨(some 24), (.cv .i64 (.tmp 23)), none⟩, ⟨(some 25), (.dv .rem (.tmp 24) (.const (.int .i64 4))), none⟩, ⟨(some 7), (.mv (.tmp 25)), none⟩])
    (.seq (.reg [⟨(some 26), (.mv (.tmp 1)), none⟩, ⟨(some 27), (.cv .i64 (.tmp 26)), none⟩, ⟨(some 28), (.mv (.tmp 7)), none⟩, ⟨(some 29), (.pcall 19 [(.tmp 28)]), none⟩, ⟨(some 30), (.dv .rem (.tmp 27) (.tmp 29)), none⟩, ⟨(some 8), (.mv (.tmp 30)), none⟩])
    (.seq (.reg [⟨(some 31), (.mv (.tmp 1)), none⟩, ⟨(some 32), (.sh .shr (.tmp 31) (.const (.int .u64 4))), none⟩, ⟨(some 33), (.cv .i64 (.tmp 32)), none⟩, ⟨(some 34), (.dv .rem (.tmp 33) (.const (.int .i64 2))), none⟩, ⟨(some 35), (.bld #[(.int .i64 0), (.int .i64 0), (.int .i64 0)] [(0, (1, (.const (.int .i64 1)))), (1, (1, (.const (.int .i64 2)))), (2, (1, (.tmp 34)))]), none⟩, ⟨(some 9), (.alc 25 (.agg #[(.int .i64 0), (.int .i64 0), (.int .i64 0)])), none⟩, ⟨none, (.stn 3 (.tmp 9) (.tmp 35)), none⟩])
    (.seq (.reg [⟨(some 36), (.ldn 3 (.tmp 9)), none⟩, ⟨(some 37), (.pcall 16 [(.tmp 36)]), none⟩, ⟨(some 38), (.mks 29 8 (.int .u64 0) (.tmp 37) (.tmp 37)), none⟩, ⟨(some 10), (.mv (.tmp 38)), none⟩])
    (.seq (.reg [⟨(some 39), (.mv (.tmp 10)), none⟩, ⟨(some 40), (.mv (.tmp 7)), none⟩, ⟨(some 41), (.mv (.tmp 0)), none⟩, ⟨(some 42), (.sh .shr (.tmp 41) (.const (.int .u64 4))), none⟩, ⟨(some 43), (.cv .i64 (.tmp 42)), none⟩, ⟨(some 44), (.dv .rem (.tmp 43) (.const (.int .i64 2))), none⟩, ⟨(some 45), (.bld #[(.int .i64 0), (.int .i64 0), (.int .i64 0)] [(0, (1, (.const (.int .i64 2)))), (1, (1, (.tmp 40))), (2, (1, (.tmp 44)))]), none⟩, ⟨(some 46), (.pcall 17 [(.tmp 45)]), none⟩, ⟨(some 47), (.iad 1 (.tmp 39) (.const (.int .i64 2))), none⟩, ⟨none, (.st1 (.tmp 47) (.tmp 46)), none⟩])
    (.seq (.seq
    (.reg [⟨(some 11), (.mv (.const (.int .i64 0))), none⟩])
    (.block 0
    (.loop (.seq
    (.seq (.reg [⟨(some 48), (.mv (.tmp 11)), none⟩, ⟨(some 49), (.mv (.tmp 7)), none⟩, ⟨(some 50), (.pcall 19 [(.tmp 49)]), none⟩, ⟨(some 51), (.cmp .lss (.tmp 48) (.tmp 50)), none⟩])
    (.cond (.tmp 51) .skip (.exit 0)))
    (.seq (.block 1
    (.reg [⟨(some 54), (.mv (.tmp 10)), none⟩, ⟨(some 55), (.mv (.tmp 11)), none⟩, ⟨(some 56), (.ar .add (.const (.int .i64 3)) (.tmp 55)), none⟩, ⟨(some 57), (.mv (.tmp 7)), none⟩, ⟨(some 58), (.bld #[(.int .i64 0), (.int .i64 0)] [(0, (1, (.const (.int .i64 3)))), (1, (1, (.tmp 57)))]), none⟩, ⟨(some 59), (.pcall 20 [(.tmp 58)]), none⟩, ⟨(some 60), (.iad 1 (.tmp 54) (.tmp 56)), none⟩, ⟨none, (.st1 (.tmp 60) (.tmp 59)), none⟩]))
    (.reg [⟨(some 52), (.mv (.tmp 11)), none⟩, ⟨(some 53), (.ar .add (.tmp 52) (.const (.int .i64 1))), none⟩, ⟨(some 11), (.mv (.tmp 53)), none⟩]))))))
    (.seq (.reg [⟨(some 61), (.mv (.tmp 10)), none⟩, ⟨(some 62), (.call 22 [(.tmp 61)]), none⟩, ⟨(some 12), (.mv (.tmp 62)), none⟩])
    (.seq (.reg [⟨(some 63), (.mv (.tmp 8)), none⟩, ⟨(some 64), (.mv (.tmp 7)), none⟩, ⟨(some 65), (.pcall 29 [(.tmp 64)]), none⟩, ⟨(some 66), (.ar .mul (.tmp 63) (.tmp 65)), none⟩, ⟨(some 13), (.mv (.tmp 66)), none⟩])
    (.seq (.draw (.take ⟨(some 67), (.ldn 3 (.tmp 9)), none⟩ (.take ⟨(some 68), (.mv (.tmp 13)), none⟩ (.take ⟨(some 70), (.ldn 3 (.tmp 9)), none⟩ (.take ⟨(some 71), (.mv (.tmp 13)), none⟩ (.alt false ⟨(some 69), (.call 30 [(.tmp 67), (.const (.int .i64 0)), (.tmp 68)]), none⟩ (.alt false ⟨(some 72), (.call 30 [(.tmp 70), (.const (.int .i64 1)), (.tmp 71)]), none⟩ (.take ⟨(some 14), (.mv (.tmp 69)), none⟩ (.take ⟨(some 15), (.mv (.tmp 72)), none⟩ .done)) .stop) .stop))))))
    (.seq (.seq
    (.reg [⟨(some 73), (.mv (.tmp 12)), none⟩, ⟨(some 74), (.pnil false (.tmp 73)), none⟩, ⟨(some 75), (.mv (.tmp 74)), none⟩, ⟨(some 76), (.mv (.tmp 14)), (some (75, false))⟩, ⟨(some 77), (.pnil false (.tmp 76)), (some (75, false))⟩, ⟨(some 78), (.pick (.tmp 75) (.const (.bool true)) (.tmp 77)), none⟩, ⟨(some 79), (.mv (.tmp 78)), none⟩, ⟨(some 80), (.mv (.tmp 15)), (some (79, false))⟩, ⟨(some 81), (.pnil false (.tmp 80)), (some (79, false))⟩, ⟨(some 82), (.pick (.tmp 79) (.const (.bool true)) (.tmp 81)), none⟩])
    (.cond (.tmp 82)
    (.seq (.reg [⟨(some 6), (.mv (.const (.bool false))), none⟩]) .ret) .skip))
    (.seq (.seq
    (.reg [⟨(some 16), (.mv (.const (.int .i64 0))), none⟩])
    (.block 2
    (.loop (.seq
    (.seq (.reg [⟨(some 83), (.mv (.tmp 16)), none⟩, ⟨(some 84), (.cmp .lss (.tmp 83) (.const (.int .i64 20))), none⟩])
    (.cond (.tmp 84) .skip (.exit 2)))
    (.seq (.block 3
    (.seq (.reg [⟨(some 87), (.mv (.tmp 16)), none⟩, ⟨(some 88), (.mv (.tmp 2)), none⟩, ⟨(some 89), (.len (.tmp 88)), none⟩, ⟨(some 90), (.cmp .lss (.tmp 87) (.tmp 89)), none⟩, ⟨(some 91), (.mv (.tmp 90)), none⟩, ⟨(some 92), (.mv (.tmp 2)), (some (91, true))⟩, ⟨(some 93), (.mv (.tmp 16)), (some (91, true))⟩, ⟨(some 94), (.iad 1 (.tmp 92) (.tmp 93)), (some (91, true))⟩, ⟨(some 95), (.ld1 (.tmp 94)), (some (91, true))⟩, ⟨(some 96), (.pick (.tmp 91) (.tmp 95) (.const (.bool false))), none⟩])
    (.cond (.tmp 96)
    (.reg [⟨(some 97), (.mv (.tmp 15)), none⟩, ⟨(some 98), (.mv (.tmp 12)), none⟩, ⟨(some 99), (.call 31 [(.tmp 97), (.tmp 98)]), none⟩])
    (.reg [⟨(some 100), (.mv (.tmp 14)), none⟩, ⟨(some 101), (.mv (.tmp 12)), none⟩, ⟨(some 102), (.call 31 [(.tmp 100), (.tmp 101)]), none⟩]))))
    (.reg [⟨(some 85), (.mv (.tmp 16)), none⟩, ⟨(some 86), (.ar .add (.tmp 85) (.const (.int .i64 1))), none⟩, ⟨(some 16), (.mv (.tmp 86)), none⟩]))))))
    (.seq (.seq
    (.reg [⟨(some 17), (.mv (.const (.int .i64 0))), none⟩])
    (.block 4
    (.loop (.seq
    (.seq (.reg [⟨(some 103), (.mv (.tmp 17)), none⟩, ⟨(some 104), (.cmp .lss (.tmp 103) (.const (.int .i64 20))), none⟩])
    (.cond (.tmp 104) .skip (.exit 4)))
    (.seq (.block 5
    (.seq (.reg [⟨(some 107), (.mv (.tmp 14)), none⟩, ⟨(some 108), (.mv (.tmp 12)), none⟩, ⟨(some 109), (.call 31 [(.tmp 107), (.tmp 108)]), none⟩])
    (.reg [⟨(some 110), (.mv (.tmp 15)), none⟩, ⟨(some 111), (.mv (.tmp 12)), none⟩, ⟨(some 112), (.call 31 [(.tmp 110), (.tmp 111)]), none⟩])))
    (.reg [⟨(some 105), (.mv (.tmp 17)), none⟩, ⟨(some 106), (.ar .add (.tmp 105) (.const (.int .i64 1))), none⟩, ⟨(some 17), (.mv (.tmp 106)), none⟩]))))))
    (.seq (.seq
    (.reg [⟨(some 113), (.mv (.tmp 14)), none⟩, ⟨(some 114), (.call 32 [(.tmp 113)]), none⟩, ⟨(some 115), (.nt (.tmp 114)), none⟩, ⟨(some 116), (.mv (.tmp 115)), none⟩, ⟨(some 117), (.mv (.tmp 15)), (some (116, false))⟩, ⟨(some 118), (.call 32 [(.tmp 117)]), (some (116, false))⟩, ⟨(some 119), (.nt (.tmp 118)), (some (116, false))⟩, ⟨(some 120), (.pick (.tmp 116) (.const (.bool true)) (.tmp 119)), none⟩, ⟨(some 121), (.mv (.tmp 120)), none⟩, ⟨(some 122), (.mv (.tmp 14)), (some (121, false))⟩, ⟨(some 123), (.call 33 [(.tmp 122)]), (some (121, false))⟩, ⟨(some 124), (.mv (.tmp 15)), (some (121, false))⟩, ⟨(some 125), (.call 33 [(.tmp 124)]), (some (121, false))⟩, ⟨(some 126), (.beq false (.tmp 123) (.tmp 125)), (some (121, false))⟩, ⟨(some 127), (.pick (.tmp 121) (.const (.bool true)) (.tmp 126)), none⟩])
    (.cond (.tmp 127)
    (.seq (.reg [⟨(some 6), (.mv (.const (.bool false))), none⟩]) .ret) .skip))
    (.seq (.reg [⟨(some 18), (.mv (.const (.int .i64 0))), none⟩])
    (.seq (.seq
    (.reg [⟨(some 128), (.mv (.tmp 15)), none⟩, ⟨(some 129), (.call 33 [(.tmp 128)]), none⟩])
    (.cond (.tmp 129)
    (.reg [⟨(some 18), (.mv (.const (.int .i64 1))), none⟩]) .skip))
    (.seq (.reg [⟨(some 130), (.mv (.tmp 12)), none⟩, ⟨(some 131), (.mv (.tmp 8)), none⟩, ⟨(some 132), (.ar .add (.const (.int .i64 3)) (.tmp 131)), none⟩, ⟨(some 133), (.call 27 [(.tmp 130), (.tmp 132)]), none⟩, ⟨(some 19), (.mv (.tmp 133)), none⟩])
    (.seq (.seq
    (.reg [⟨(some 134), (.mv (.tmp 18)), none⟩, ⟨(some 135), (.mv (.tmp 0)), none⟩, ⟨(some 136), (.sh .shr (.tmp 135) (.const (.int .u64 4))), none⟩, ⟨(some 137), (.cv .i64 (.tmp 136)), none⟩, ⟨(some 138), (.dv .rem (.tmp 137) (.const (.int .i64 2))), none⟩, ⟨(some 139), (.cmp .eql (.tmp 134) (.tmp 138)), none⟩, ⟨(some 140), (.mv (.tmp 139)), none⟩, ⟨(some 141), (.fad 2 (.tmp 9)), (some (140, true))⟩, ⟨(some 142), (.ld1 (.tmp 141)), (some (140, true))⟩, ⟨(some 143), (.cmp .eql (.tmp 142) (.const (.int .i64 1))), (some (140, true))⟩, ⟨(some 144), (.pick (.tmp 140) (.tmp 143) (.const (.bool false))), none⟩])
    (.cond (.tmp 144)
    (.seq (.reg [⟨(some 145), (.mv (.tmp 12)), none⟩, ⟨(some 146), (.ldn 3 (.tmp 9)), none⟩, ⟨(some 147), (.mv (.tmp 18)), none⟩, ⟨(some 148), (.pcall 34 [(.tmp 146), (.tmp 147), (.const (.int .i64 0))]), none⟩, ⟨(some 149), (.call 27 [(.tmp 145), (.tmp 148)]), none⟩, ⟨(some 20), (.mv (.tmp 149)), none⟩])
    (.seq (.reg [⟨(some 150), (.mv (.tmp 19)), none⟩, ⟨(some 151), (.mv (.tmp 18)), none⟩, ⟨(some 152), (.bld #[(.int .i64 0), (.int .i64 0)] [(0, (1, (.const (.int .i64 2)))), (1, (1, (.tmp 151)))]), none⟩, ⟨(some 153), (.pcall 20 [(.tmp 152)]), none⟩, ⟨(some 154), (.cmp .eql (.tmp 150) (.tmp 153)), none⟩, ⟨(some 155), (.mv (.tmp 154)), none⟩, ⟨(some 156), (.mv (.tmp 20)), (some (155, true))⟩, ⟨(some 157), (.mv (.tmp 8)), (some (155, true))⟩, ⟨(some 158), (.mv (.tmp 7)), (some (155, true))⟩, ⟨(some 159), (.bld #[(.int .i64 0), (.int .i64 0), (.int .i64 0)] [(1, (1, (.tmp 157))), (2, (1, (.tmp 158)))]), (some (155, true))⟩, ⟨(some 160), (.pcall 35 [(.tmp 159)]), (some (155, true))⟩, ⟨(some 161), (.cmp .eql (.tmp 156) (.tmp 160)), (some (155, true))⟩, ⟨(some 162), (.pick (.tmp 155) (.tmp 161) (.const (.bool false))), none⟩, ⟨(some 6), (.mv (.tmp 162)), none⟩]) .ret)) .skip))
    (.seq (.reg [⟨(some 163), (.mv (.tmp 19)), none⟩, ⟨(some 164), (.mv (.tmp 7)), none⟩, ⟨(some 165), (.bld #[(.int .i64 0), (.int .i64 0)] [(0, (1, (.const (.int .i64 1)))), (1, (1, (.tmp 164)))]), none⟩, ⟨(some 166), (.pcall 20 [(.tmp 165)]), none⟩, ⟨(some 167), (.cmp .eql (.tmp 163) (.tmp 166)), none⟩, ⟨(some 6), (.mv (.tmp 167)), none⟩]) .ret))))))))))))))))))))⟩ := by kernel_rfl

/-- allotment/allotmentlaw16.GiveRemote -/
theorem tr6 : trF Try.prog pures Try.f6 = some
  ⟨162, [(.t 6)],
    (.seq (.reg [⟨(some 6), (.mv (.const (.bool false))), none⟩])
    (.seq (.seq
    (.reg [⟨(some 19), (.call 28 []), none⟩, ⟨(some 20), (.nt (.tmp 19)), none⟩])
    (.cond (.tmp 20)
    (.seq (.reg [⟨(some 6), (.mv (.const (.bool false))), none⟩]) .ret) .skip))
    (.seq (.reg [⟨(some 21), (.mv (.tmp 0)), none⟩, ⟨(some 22), (.cv .i64 (.tmp 21)), none⟩, ⟨(some 23), (.dv .rem (.tmp 22) (.const (.int .i64 4))), none⟩, ⟨(some 7), (.mv (.tmp 23)), none⟩])
    (.seq (.reg [⟨(some 24), (.mv (.tmp 2)), none⟩, ⟨(some 25), (.len (.tmp 24)), none⟩, ⟨(some 26), (.mn (.tmp 25) (.const (.int .i64 8))), none⟩, ⟨(some 8), (.mv (.tmp 26)), none⟩])
    (.seq (.reg [⟨(some 27), (.mv (.tmp 8)), none⟩, ⟨(some 28), (.bld #[(.int .i64 0), (.int .i64 0), (.int .i64 0)] [(0, (1, (.const (.int .i64 1)))), (1, (1, (.const (.int .i64 2)))), (2, (1, (.tmp 27)))]), none⟩, ⟨(some 9), (.alc 25 (.agg #[(.int .i64 0), (.int .i64 0), (.int .i64 0)])), none⟩, ⟨none, (.stn 3 (.tmp 9) (.tmp 28)), none⟩])
    (.seq (.reg [⟨(some 29), (.ldn 3 (.tmp 9)), none⟩, ⟨(some 30), (.pcall 16 [(.tmp 29)]), none⟩, ⟨(some 31), (.mks 29 8 (.int .u64 0) (.tmp 30) (.tmp 30)), none⟩, ⟨(some 10), (.mv (.tmp 31)), none⟩])
    (.seq (.reg [⟨(some 32), (.mv (.tmp 10)), none⟩, ⟨(some 33), (.mv (.tmp 7)), none⟩, ⟨(some 34), (.bld #[(.int .i64 0), (.int .i64 0), (.int .i64 0)] [(0, (1, (.const (.int .i64 2)))), (1, (1, (.tmp 33))), (2, (1, (.const (.int .i64 1))))]), none⟩, ⟨(some 35), (.pcall 17 [(.tmp 34)]), none⟩, ⟨(some 36), (.iad 1 (.tmp 32) (.const (.int .i64 2))), none⟩, ⟨none, (.st1 (.tmp 36) (.tmp 35)), none⟩])
    (.seq (.seq
    (.reg [⟨(some 11), (.mv (.const (.int .i64 0))), none⟩])
    (.block 0
    (.loop (.seq
    (.seq (.reg [⟨(some 37), (.mv (.tmp 11)), none⟩, ⟨(some 38), (.mv (.tmp 7)), none⟩, ⟨(some 39), (.pcall 19 [(.tmp 38)]), none⟩, ⟨(some 40), (.cmp .lss (.tmp 37) (.tmp 39)), none⟩])
    (.cond (.tmp 40) .skip (.exit 0)))
    (.seq (.block 1
    (.reg [⟨(some 43), (.mv (.tmp 10)), none⟩, ⟨(some 44), (.mv (.tmp 11)), none⟩, ⟨(some 45), (.ar .add (.const (.int .i64 3)) (.tmp 44)), none⟩, ⟨(some 46), (.mv (.tmp 7)), none⟩, ⟨(some 47), (.bld #[(.int .i64 0), (.int .i64 0)] [(0, (1, (.const (.int .i64 3)))), (1, (1, (.tmp 46)))]), none⟩, ⟨(some 48), (.pcall 20 [(.tmp 47)]), none⟩, ⟨(some 49), (.iad 1 (.tmp 43) (.tmp 45)), none⟩, ⟨none, (.st1 (.tmp 49) (.tmp 48)), none⟩]))
    (.reg [⟨(some 41), (.mv (.tmp 11)), none⟩, ⟨(some 42), (.ar .add (.tmp 41) (.const (.int .i64 1))), none⟩, ⟨(some 11), (.mv (.tmp 42)), none⟩]))))))
    (.seq (.reg [⟨(some 12), (.mv (.const (.int .i64 0))), none⟩])
    (.seq (.seq
    (.reg [⟨(some 50), (.mv (.tmp 1)), none⟩])
    (.cond (.tmp 50)
    (.reg [⟨(some 12), (.mv (.const (.int .i64 1))), none⟩]) .skip))
    (.seq (.reg [⟨(some 13), (.mv (.const (.int .i64 (-1)))), none⟩])
    (.seq (.seq
    (.reg [⟨(some 51), (.mv (.tmp 8)), none⟩, ⟨(some 52), (.ar .sub (.tmp 51) (.const (.int .i64 1))), none⟩, ⟨(some 14), (.mv (.tmp 52)), none⟩])
    (.block 2
    (.loop (.seq
    (.seq (.reg [⟨(some 53), (.mv (.tmp 14)), none⟩, ⟨(some 54), (.cmp .geq (.tmp 53) (.const (.int .i64 0))), none⟩])
    (.cond (.tmp 54) .skip (.exit 2)))
    (.seq (.block 3
    (.seq (.reg [⟨(some 57), (.mv (.tmp 2)), none⟩, ⟨(some 58), (.mv (.tmp 14)), none⟩, ⟨(some 59), (.iad 1 (.tmp 57) (.tmp 58)), none⟩, ⟨(some 60), (.ld1 (.tmp 59)), none⟩])
    (.cond (.tmp 60)
    (.reg [⟨(some 61), (.mv (.tmp 10)), none⟩, ⟨(some 62), (.ldn 3 (.tmp 9)), none⟩, ⟨(some 63), (.mv (.tmp 12)), none⟩, ⟨(some 64), (.mv (.tmp 14)), none⟩, ⟨(some 65), (.pcall 34 [(.tmp 62), (.tmp 63), (.tmp 64)]), none⟩, ⟨(some 66), (.iad 1 (.tmp 61) (.tmp 65)), none⟩, ⟨none, (.st1 (.tmp 66) (.const (.int .u64 1))), none⟩])
    (.reg [⟨(some 67), (.mv (.tmp 14)), none⟩, ⟨(some 13), (.mv (.tmp 67)), none⟩]))))
    (.reg [⟨(some 55), (.mv (.tmp 14)), none⟩, ⟨(some 56), (.ar .sub (.tmp 55) (.const (.int .i64 1))), none⟩, ⟨(some 14), (.mv (.tmp 56)), none⟩]))))))
    (.seq (.reg [⟨(some 68), (.mv (.tmp 10)), none⟩, ⟨(some 69), (.call 22 [(.tmp 68)]), none⟩, ⟨(some 15), (.mv (.tmp 69)), none⟩])
    (.seq (.reg [⟨(some 70), (.ldn 3 (.tmp 9)), none⟩, ⟨(some 71), (.mv (.tmp 12)), none⟩, ⟨(some 72), (.call 30 [(.tmp 70), (.tmp 71), (.const (.int .i64 0))]), none⟩, ⟨(some 16), (.mv (.tmp 72)), none⟩])
    (.seq (.seq
    (.reg [⟨(some 73), (.mv (.tmp 15)), none⟩, ⟨(some 74), (.pnil false (.tmp 73)), none⟩, ⟨(some 75), (.mv (.tmp 74)), none⟩, ⟨(some 76), (.mv (.tmp 16)), (some (75, false))⟩, ⟨(some 77), (.pnil false (.tmp 76)), (some (75, false))⟩, ⟨(some 78), (.pick (.tmp 75) (.const (.bool true)) (.tmp 77)), none⟩])
    (.cond (.tmp 78)
    (.seq (.reg [⟨(some 6), (.mv (.const (.bool false))), none⟩]) .ret) .skip))
    (.seq (.seq
    (.reg [⟨(some 17), (.mv (.const (.int .i64 0))), none⟩])
    (.block 4
    (.loop (.seq
    (.seq (.reg [⟨(some 79), (.mv (.tmp 17)), none⟩, ⟨(some 80), (.mv (.tmp 8)), none⟩, ⟨(some 81), (.ar .add (.tmp 80) (.const (.int .i64 10))), none⟩, ⟨(some 82), (.cmp .lss (.tmp 79) (.tmp 81)), none⟩])
    (.cond (.tmp 82) .skip (.exit 4)))
    (.seq (.block 5
    (.reg [⟨(some 85), (.mv (.tmp 16)), none⟩, ⟨(some 86), (.mv (.tmp 15)), none⟩, ⟨(some 87), (.call 31 [(.tmp 85), (.tmp 86)]), none⟩]))
    (.reg [⟨(some 83), (.mv (.tmp 17)), none⟩, ⟨(some 84), (.ar .add (.tmp 83) (.const (.int .i64 1))), none⟩, ⟨(some 17), (.mv (.tmp 84)), none⟩]))))))
    (.seq (.reg [⟨(some 88), (.mv (.tmp 7)), none⟩, ⟨(some 89), (.bld #[(.int .i64 0), (.int .i64 0)] [(0, (1, (.const (.int .i64 1)))), (1, (1, (.tmp 88)))]), none⟩, ⟨(some 90), (.pcall 20 [(.tmp 89)]), none⟩, ⟨(some 18), (.mv (.tmp 90)), none⟩])
    (.seq (.seq
    (.reg [⟨(some 91), (.mv (.tmp 1)), none⟩, ⟨(some 92), (.nt (.tmp 91)), none⟩])
    (.cond (.tmp 92)
    (.seq (.reg [⟨(some 93), (.mv (.tmp 16)), none⟩, ⟨(some 94), (.call 32 [(.tmp 93)]), none⟩, ⟨(some 95), (.mv (.tmp 94)), none⟩, ⟨(some 96), (.mv (.tmp 16)), (some (95, true))⟩, ⟨(some 97), (.call 33 [(.tmp 96)]), (some (95, true))⟩, ⟨(some 98), (.pick (.tmp 95) (.tmp 97) (.const (.bool false))), none⟩, ⟨(some 99), (.mv (.tmp 98)), none⟩, ⟨(some 100), (.mv (.tmp 15)), (some (99, true))⟩, ⟨(some 101), (.call 36 [(.tmp 100)]), (some (99, true))⟩, ⟨(some 102), (.cmp .eql (.tmp 101) (.const (.int .i64 3))), (some (99, true))⟩, ⟨(some 103), (.pick (.tmp 99) (.tmp 102) (.const (.bool false))), none⟩, ⟨(some 104), (.mv (.tmp 103)), none⟩, ⟨(some 105), (.mv (.tmp 15)), (some (104, true))⟩, ⟨(some 106), (.call 27 [(.tmp 105), (.const (.int .i64 3))]), (some (104, true))⟩, ⟨(some 107), (.mv (.tmp 18)), (some (104, true))⟩, ⟨(some 108), (.cmp .eql (.tmp 106) (.tmp 107)), (some (104, true))⟩, ⟨(some 109), (.pick (.tmp 104) (.tmp 108) (.const (.bool false))), none⟩, ⟨(some 6), (.mv (.tmp 109)), none⟩]) .ret) .skip))
    (.seq (.seq
    (.reg [⟨(some 110), (.mv (.tmp 13)), none⟩, ⟨(some 111), (.cmp .lss (.tmp 110) (.const (.int .i64 0))), none⟩])
    (.cond (.tmp 111)
    (.seq (.reg [⟨(some 112), (.mv (.tmp 16)), none⟩, ⟨(some 113), (.call 32 [(.tmp 112)]), none⟩, ⟨(some 114), (.mv (.tmp 113)), none⟩, ⟨(some 115), (.mv (.tmp 16)), (some (114, true))⟩, ⟨(some 116), (.call 33 [(.tmp 115)]), (some (114, true))⟩, ⟨(some 117), (.pick (.tmp 114) (.tmp 116) (.const (.bool false))), none⟩, ⟨(some 118), (.mv (.tmp 117)), none⟩, ⟨(some 119), (.mv (.tmp 15)), (some (118, true))⟩, ⟨(some 120), (.call 36 [(.tmp 119)]), (some (118, true))⟩, ⟨(some 121), (.mv (.tmp 8)), (some (118, true))⟩, ⟨(some 122), (.ar .add (.const (.int .i64 3)) (.tmp 121)), (some (118, true))⟩, ⟨(some 123), (.cmp .eql (.tmp 120) (.tmp 122)), (some (118, true))⟩, ⟨(some 124), (.pick (.tmp 118) (.tmp 123) (.const (.bool false))), none⟩, ⟨(some 125), (.mv (.tmp 124)), none⟩, ⟨(some 126), (.mv (.tmp 15)), (some (125, true))⟩, ⟨(some 127), (.call 27 [(.tmp 126), (.const (.int .i64 3))]), (some (125, true))⟩, ⟨(some 128), (.mv (.tmp 18)), (some (125, true))⟩, ⟨(some 129), (.cmp .eql (.tmp 127) (.tmp 128)), (some (125, true))⟩, ⟨(some 130), (.pick (.tmp 125) (.tmp 129) (.const (.bool false))), none⟩, ⟨(some 6), (.mv (.tmp 130)), none⟩]) .ret) .skip))
    (.seq (.reg [⟨(some 131), (.mv (.tmp 16)), none⟩, ⟨(some 132), (.call 32 [(.tmp 131)]), none⟩, ⟨(some 133), (.mv (.tmp 132)), none⟩, ⟨(some 134), (.mv (.tmp 16)), (some (133, true))⟩, ⟨(some 135), (.call 33 [(.tmp 134)]), (some (133, true))⟩, ⟨(some 136), (.pick (.tmp 133) (.tmp 135) (.const (.bool false))), none⟩, ⟨(some 137), (.mv (.tmp 136)), none⟩, ⟨(some 138), (.mv (.tmp 15)), (some (137, true))⟩, ⟨(some 139), (.call 36 [(.tmp 138)]), (some (137, true))⟩, ⟨(some 140), (.mv (.tmp 13)), (some (137, true))⟩, ⟨(some 141), (.ar .add (.const (.int .i64 4)) (.tmp 140)), (some (137, true))⟩, ⟨(some 142), (.cmp .eql (.tmp 139) (.tmp 141)), (some (137, true))⟩, ⟨(some 143), (.pick (.tmp 137) (.tmp 142) (.const (.bool false))), none⟩, ⟨(some 144), (.mv (.tmp 143)), none⟩, ⟨(some 145), (.mv (.tmp 15)), (some (144, true))⟩, ⟨(some 146), (.call 27 [(.tmp 145), (.const (.int .i64 3))]), (some (144, true))⟩, ⟨(some 147), (.bld #[(.int .i64 0), (.int .i64 0)] [(0, (1, (.const (.int .i64 2)))), (1, (1, (.const (.int .i64 1))))]), (some (144, true))⟩, ⟨(some 148), (.pcall 20 [(.tmp 147)]), (some (144, true))⟩, ⟨(some 149), (.cmp .eql (.tmp 146) (.tmp 148)), (some (144, true))⟩, ⟨(some 150), (.pick (.tmp 144) (.tmp 149) (.const (.bool false))), none⟩, ⟨(some 151), (.mv (.tmp 150)), none⟩, ⟨(some 152), (.mv (.tmp 15)), (some (151, true))⟩, ⟨(some 153), (.ldn 3 (.tmp 9)), (some (151, true))⟩, ⟨(some 154), (.mv (.tmp 13)), (some (151, true))⟩, ⟨(some 155), (.pcall 34 [(.tmp 153), (.const (.int .i64 1)), (.tmp 154)]), (some (151, true))⟩, ⟨(some 156), (.call 27 [(.tmp 152), (.tmp 155)]), (some (151, true))⟩, ⟨(some 157), (.mv (.tmp 7)), (some (151, true))⟩, ⟨(some 158), (.bld #[(.int .i64 0), (.int .i64 0), (.int .i64 0)] [(2, (1, (.tmp 157)))]), (some (151, true))⟩, ⟨(some 159), (.pcall 35 [(.tmp 158)]), (some (151, true))⟩, ⟨(some 160), (.cmp .eql (.tmp 156) (.tmp 159)), (some (151, true))⟩, ⟨(some 161), (.pick (.tmp 151) (.tmp 160) (.const (.bool false))), none⟩, ⟨(some 6), (.mv (.tmp 161)), none⟩]) .ret))))))))))))))))))))⟩ := by kernel_rfl

/-- allotment/allotmentlaw14.RunSound -/
theorem tr7 : trF Try.prog pures Try.f7 = some
  ⟨138, [(.t 6)],
    (.seq (.reg [⟨(some 3), (.box 25 (.tmp 0)), none⟩, ⟨(some 5), (.box 59 (.tmp 2)), none⟩, ⟨(some 6), (.mv (.const (.bool false))), none⟩])
    (.seq (.seq
    (.reg [⟨(some 17), (.call 15 []), none⟩, ⟨(some 18), (.nt (.tmp 17)), none⟩])
    (.cond (.tmp 18)
    (.seq (.reg [⟨(some 6), (.mv (.const (.bool false))), none⟩]) .ret) .skip))
    (.seq (.seq
    (.reg [⟨(some 19), (.ldn 3 (.tmp 3)), none⟩, ⟨(some 20), (.mv (.tmp 1)), none⟩, ⟨(some 21), (.call 37 [(.tmp 19), (.tmp 20)]), none⟩, ⟨(some 22), (.nt (.tmp 21)), none⟩, ⟨(some 23), (.mv (.tmp 22)), none⟩, ⟨(some 24), (.ldn 3 (.tmp 3)), (some (23, false))⟩, ⟨(some 25), (.mv (.tmp 1)), (some (23, false))⟩, ⟨(some 26), (.call 38 [(.tmp 24), (.tmp 25)]), (some (23, false))⟩, ⟨(some 27), (.nt (.tmp 26)), (some (23, false))⟩, ⟨(some 28), (.pick (.tmp 23) (.const (.bool true)) (.tmp 27)), none⟩, ⟨(some 29), (.mv (.tmp 28)), none⟩, ⟨(some 30), (.ldn 3 (.tmp 3)), (some (29, false))⟩, ⟨(some 31), (.iadA 2 1 (.tmp 5) (.const (.int .i64 0))), (some (29, false))⟩, ⟨(some 32), (.ld1 (.tmp 31)), (some (29, false))⟩, ⟨(some 33), (.pcall 39 [(.tmp 30), (.tmp 32)]), (some (29, false))⟩, ⟨(some 34), (.cmp .lss (.tmp 33) (.const (.int .i64 0))), (some (29, false))⟩, ⟨(some 35), (.pick (.tmp 29) (.const (.bool true)) (.tmp 34)), none⟩])
    (.cond (.tmp 35)
    (.seq (.reg [⟨(some 6), (.mv (.const (.bool true))), none⟩]) .ret) .skip))
    (.seq (.reg [⟨(some 36), (.iadA 2 1 (.tmp 5) (.const (.int .i64 1))), none⟩, ⟨(some 37), (.ld1 (.tmp 36)), none⟩, ⟨(some 38), (.dv .rem (.tmp 37) (.const (.int .i64 8))), none⟩, ⟨(some 39), (.ar .add (.tmp 38) (.const (.int .i64 8))), none⟩, ⟨(some 40), (.dv .rem (.tmp 39) (.const (.int .i64 8))), none⟩, ⟨(some 41), (.ar .add (.const (.int .i64 1)) (.tmp 40)), none⟩, ⟨(some 7), (.mv (.tmp 41)), none⟩])
    (.seq (.reg [⟨(some 42), (.mv (.tmp 1)), none⟩, ⟨(some 43), (.call 22 [(.tmp 42)]), none⟩, ⟨(some 8), (.mv (.tmp 43)), none⟩])
    (.seq (.reg [⟨(some 44), (.ldn 3 (.tmp 3)), none⟩, ⟨(some 45), (.iadA 2 1 (.tmp 5) (.const (.int .i64 0))), none⟩, ⟨(some 46), (.ld1 (.tmp 45)), none⟩, ⟨(some 47), (.mv (.tmp 7)), none⟩, ⟨(some 48), (.call 23 [(.tmp 44), (.tmp 46), (.tmp 47)]), none⟩, ⟨(some 9), (.mv (.tmp 48)), none⟩])
    (.seq (.seq
    (.reg [⟨(some 49), (.mv (.tmp 8)), none⟩, ⟨(some 50), (.pnil false (.tmp 49)), none⟩, ⟨(some 51), (.mv (.tmp 50)), none⟩, ⟨(some 52), (.mv (.tmp 9)), (some (51, false))⟩, ⟨(some 53), (.pnil false (.tmp 52)), (some (51, false))⟩, ⟨(some 54), (.pick (.tmp 51) (.const (.bool true)) (.tmp 53)), none⟩])
    (.cond (.tmp 54)
    (.seq (.reg [⟨(some 6), (.mv (.const (.bool false))), none⟩]) .ret) .skip))
    (.seq (.seq
    (.reg [⟨(some 10), (.mv (.const (.int .i64 0))), none⟩])
    (.block 0
    (.loop (.seq
    (.seq (.reg [⟨(some 55), (.mv (.tmp 10)), none⟩, ⟨(some 56), (.fad 0 (.tmp 3)), none⟩, ⟨(some 57), (.ld1 (.tmp 56)), none⟩, ⟨(some 58), (.ar .mul (.const (.int .i64 60)) (.tmp 57)), none⟩, ⟨(some 59), (.ar .add (.tmp 58) (.const (.int .i64 20))), none⟩, ⟨(some 60), (.cmp .lss (.tmp 55) (.tmp 59)), none⟩, ⟨(some 61), (.mv (.tmp 60)), none⟩, ⟨(some 62), (.mv (.tmp 9)), (some (61, true))⟩, ⟨(some 63), (.call 26 [(.tmp 62)]), (some (61, true))⟩, ⟨(some 64), (.nt (.tmp 63)), (some (61, true))⟩, ⟨(some 65), (.pick (.tmp 61) (.tmp 64) (.const (.bool false))), none⟩])
    (.cond (.tmp 65) .skip (.exit 0)))
    (.seq (.block 1
    (.seq (.reg [⟨(some 68), (.mv (.tmp 9)), none⟩, ⟨(some 69), (.mv (.tmp 8)), none⟩, ⟨(some 70), (.call 24 [(.tmp 68), (.tmp 69)]), none⟩])
    (.seq (.draw (.take ⟨(some 71), (.mv (.tmp 10)), none⟩ (.take ⟨(some 72), (.dv .rem (.tmp 71) (.const (.int .i64 5))), none⟩ (.take ⟨(some 73), (.cmp .eql (.tmp 72) (.const (.int .i64 0))), none⟩ (.take ⟨(some 74), (.mv (.tmp 73)), none⟩ (.take ⟨(some 75), (.ldn 3 (.tmp 3)), (some (74, true))⟩ (.take ⟨(some 76), (.mv (.tmp 8)), (some (74, true))⟩ (.alt false ⟨(some 77), (.call 40 [(.tmp 76)]), (some (74, true))⟩ (.alt false ⟨(some 78), (.call 38 [(.tmp 75), (.tmp 77)]), (some (74, true))⟩ (.take ⟨(some 79), (.nt (.tmp 78)), (some (74, true))⟩ (.take ⟨(some 80), (.pick (.tmp 74) (.tmp 79) (.const (.bool false))), none⟩ .done)) .stop) .stop))))))))
    (.cond (.tmp 80)
    (.seq (.reg [⟨(some 6), (.mv (.const (.bool false))), none⟩]) .ret) .skip))))
    (.reg [⟨(some 66), (.mv (.tmp 10)), none⟩, ⟨(some 67), (.ar .add (.tmp 66) (.const (.int .i64 1))), none⟩, ⟨(some 10), (.mv (.tmp 67)), none⟩]))))))
    (.seq (.reg [⟨(some 82), (.mv (.tmp 9)), none⟩, ⟨(some 83), (.call 25 [(.tmp 82)]), none⟩, ⟨(some 81), (.mv (.tmp 83)), none⟩, ⟨(some 84), (.ext 0 (.tmp 81)), none⟩, ⟨(some 85), (.ext 1 (.tmp 81)), none⟩, ⟨(some 11), (.mv (.tmp 84)), none⟩, ⟨(some 12), (.mv (.tmp 85)), none⟩])
    (.seq (.draw (.take ⟨(some 86), (.ldn 3 (.tmp 3)), none⟩ (.take ⟨(some 87), (.mv (.tmp 1)), none⟩ (.take ⟨(some 89), (.ldn 3 (.tmp 3)), none⟩ (.take ⟨(some 90), (.mv (.tmp 8)), none⟩ (.alt false ⟨(some 88), (.call 41 [(.tmp 86), (.tmp 87)]), none⟩ (.alt false ⟨(some 91), (.call 40 [(.tmp 90)]), none⟩ (.alt false ⟨(some 92), (.call 41 [(.tmp 89), (.tmp 91)]), none⟩ (.take ⟨(some 13), (.mv (.tmp 88)), none⟩ (.take ⟨(some 14), (.mv (.tmp 92)), none⟩ .done)) .stop) .stop) .stop))))))
    (.seq (.seq
    (.draw (.take ⟨(some 93), (.mv (.tmp 9)), none⟩ (.alt false ⟨(some 94), (.call 26 [(.tmp 93)]), none⟩ (.take ⟨(some 95), (.nt (.tmp 94)), none⟩ (.take ⟨(some 96), (.mv (.tmp 95)), none⟩ (.take ⟨(some 97), (.mv (.tmp 13)), (some (96, false))⟩ (.take ⟨(some 98), (.len (.tmp 97)), (some (96, false))⟩ (.take ⟨(some 99), (.mv (.tmp 14)), (some (96, false))⟩ (.take ⟨(some 100), (.len (.tmp 99)), (some (96, false))⟩ (.take ⟨(some 101), (.cmp .neq (.tmp 98) (.tmp 100)), (some (96, false))⟩ (.take ⟨(some 102), (.pick (.tmp 96) (.const (.bool true)) (.tmp 101)), none⟩ (.take ⟨(some 103), (.mv (.tmp 102)), none⟩ (.take ⟨(some 104), (.ldn 3 (.tmp 3)), (some (103, false))⟩ (.take ⟨(some 105), (.mv (.tmp 8)), (some (103, false))⟩ (.alt false ⟨(some 106), (.call 40 [(.tmp 105)]), (some (103, false))⟩ (.alt false ⟨(some 107), (.call 38 [(.tmp 104), (.tmp 106)]), (some (103, false))⟩ (.take ⟨(some 108), (.nt (.tmp 107)), (some (103, false))⟩ (.take ⟨(some 109), (.pick (.tmp 103) (.const (.bool true)) (.tmp 108)), none⟩ .done)) .stop) .stop)))))))))))) .stop)))
    (.cond (.tmp 109)
    (.seq (.reg [⟨(some 6), (.mv (.const (.bool false))), none⟩]) .ret) .skip))
    (.seq (.seq
    (.reg [⟨(some 15), (.mv (.const (.int .i64 0))), none⟩])
    (.block 2
    (.loop (.seq
    (.seq (.reg [⟨(some 110), (.mv (.tmp 15)), none⟩, ⟨(some 111), (.mv (.tmp 13)), none⟩, ⟨(some 112), (.len (.tmp 111)), none⟩, ⟨(some 113), (.cmp .lss (.tmp 110) (.tmp 112)), none⟩])
    (.cond (.tmp 113) .skip (.exit 2)))
    (.seq (.block 3
    (.seq .no
    (.cond (.tmp 124)
    (.seq (.reg [⟨(some 6), (.mv (.const (.bool false))), none⟩]) .ret) .skip)))
    (.reg [⟨(some 114), (.mv (.tmp 15)), none⟩, ⟨(some 115), (.ar .add (.tmp 114) (.const (.int .i64 1))), none⟩, ⟨(some 15), (.mv (.tmp 115)), none⟩]))))))
    (.seq (.reg [⟨(some 125), (.ldn 3 (.tmp 3)), none⟩, ⟨(some 126), (.mv (.tmp 1)), none⟩, ⟨(some 127), (.mv (.tmp 7)), none⟩, ⟨(some 128), (.ar .mul (.tmp 127) (.const (.int .i64 64))), none⟩, ⟨(some 129), (.call 42 [(.tmp 125), (.tmp 126), (.tmp 128)]), none⟩, ⟨(some 16), (.mv (.tmp 129)), none⟩])
    (.seq (.seq
    (.reg [⟨(some 130), (.mv (.tmp 7)), none⟩, ⟨(some 131), (.cmp .eql (.tmp 130) (.const (.int .i64 1))), none⟩])
    (.cond (.tmp 131)
    (.reg [⟨(some 132), (.ldn 3 (.tmp 3)), none⟩, ⟨(some 133), (.mv (.tmp 1)), none⟩, ⟨(some 134), (.call 42 [(.tmp 132), (.tmp 133), (.const (.int .i64 1))]), none⟩, ⟨(some 16), (.mv (.tmp 134)), none⟩]) .skip))
    (.seq (.reg [⟨(some 135), (.mv (.tmp 12)), none⟩, ⟨(some 136), (.mv (.tmp 16)), none⟩, ⟨(some 137), (.beq false (.tmp 135) (.tmp 136)), none⟩, ⟨(some 6), (.mv (.tmp 137)), none⟩]) .ret)))))))))))))))⟩ := by kernel_rfl

/-- allotment/allotmentlaw16.GiveAll -/
theorem tr8 : trF Try.prog pures Try.f8 = some
  ⟨129, [(.t 6)],
    (.seq (.reg [⟨(some 3), (.box 25 (.tmp 0)), none⟩, ⟨(some 5), (.box 59 (.tmp 2)), none⟩, ⟨(some 6), (.mv (.const (.bool false))), none⟩])
    (.seq (.seq
    (.reg [⟨(some 16), (.call 28 []), none⟩, ⟨(some 17), (.nt (.tmp 16)), none⟩])
    (.cond (.tmp 17)
    (.seq (.reg [⟨(some 6), (.mv (.const (.bool false))), none⟩]) .ret) .skip))
    (.seq (.seq
    (.reg [⟨(some 18), (.ldn 3 (.tmp 3)), none⟩, ⟨(some 19), (.mv (.tmp 1)), none⟩, ⟨(some 20), (.call 37 [(.tmp 18), (.tmp 19)]), none⟩, ⟨(some 21), (.nt (.tmp 20)), none⟩, ⟨(some 22), (.mv (.tmp 21)), none⟩, ⟨(some 23), (.ldn 3 (.tmp 3)), (some (22, false))⟩, ⟨(some 24), (.mv (.tmp 1)), (some (22, false))⟩, ⟨(some 25), (.call 38 [(.tmp 23), (.tmp 24)]), (some (22, false))⟩, ⟨(some 26), (.nt (.tmp 25)), (some (22, false))⟩, ⟨(some 27), (.pick (.tmp 22) (.const (.bool true)) (.tmp 26)), none⟩, ⟨(some 28), (.mv (.tmp 27)), none⟩, ⟨(some 29), (.ldn 3 (.tmp 3)), (some (28, false))⟩, ⟨(some 30), (.iadA 2 1 (.tmp 5) (.const (.int .i64 0))), (some (28, false))⟩, ⟨(some 31), (.ld1 (.tmp 30)), (some (28, false))⟩, ⟨(some 32), (.pcall 39 [(.tmp 29), (.tmp 31)]), (some (28, false))⟩, ⟨(some 33), (.cmp .lss (.tmp 32) (.const (.int .i64 0))), (some (28, false))⟩, ⟨(some 34), (.pick (.tmp 28) (.const (.bool true)) (.tmp 33)), none⟩])
    (.cond (.tmp 34)
    (.seq (.reg [⟨(some 6), (.mv (.const (.bool true))), none⟩]) .ret) .skip))
    (.seq (.reg [⟨(some 35), (.mv (.tmp 1)), none⟩, ⟨(some 36), (.call 22 [(.tmp 35)]), none⟩, ⟨(some 7), (.mv (.tmp 36)), none⟩])
    (.seq (.reg [⟨(some 37), (.ldn 3 (.tmp 3)), none⟩, ⟨(some 38), (.iadA 2 1 (.tmp 5) (.const (.int .i64 0))), none⟩, ⟨(some 39), (.ld1 (.tmp 38)), none⟩, ⟨(some 40), (.iadA 2 1 (.tmp 5) (.const (.int .i64 1))), none⟩, ⟨(some 41), (.ld1 (.tmp 40)), none⟩, ⟨(some 42), (.call 30 [(.tmp 37), (.tmp 39), (.tmp 41)]), none⟩, ⟨(some 8), (.mv (.tmp 42)), none⟩])
    (.seq (.seq
    (.reg [⟨(some 43), (.mv (.tmp 7)), none⟩, ⟨(some 44), (.pnil false (.tmp 43)), none⟩, ⟨(some 45), (.mv (.tmp 44)), none⟩, ⟨(some 46), (.mv (.tmp 8)), (some (45, false))⟩, ⟨(some 47), (.pnil false (.tmp 46)), (some (45, false))⟩, ⟨(some 48), (.pick (.tmp 45) (.const (.bool true)) (.tmp 47)), none⟩])
    (.cond (.tmp 48)
    (.seq (.reg [⟨(some 6), (.mv (.const (.bool false))), none⟩]) .ret) .skip))
    (.seq (.reg [⟨(some 49), (.ldn 3 (.tmp 3)), none⟩, ⟨(some 50), (.mv (.tmp 1)), none⟩, ⟨(some 51), (.call 41 [(.tmp 49), (.tmp 50)]), none⟩, ⟨(some 9), (.mv (.tmp 51)), none⟩])
    (.seq (.reg [⟨(some 10), (.mv (.const (.int .i64 (-1)))), none⟩])
    (.seq (.seq
    (.reg [⟨(some 11), (.mv (.const (.int .i64 0))), none⟩])
    (.block 0
    (.loop (.seq
    (.seq (.reg [⟨(some 52), (.mv (.tmp 11)), none⟩, ⟨(some 53), (.mv (.tmp 9)), none⟩, ⟨(some 54), (.len (.tmp 53)), none⟩, ⟨(some 55), (.cmp .lss (.tmp 52) (.tmp 54)), none⟩])
    (.cond (.tmp 55) .skip (.exit 0)))
    (.seq (.block 1
    (.seq (.reg [⟨(some 58), (.mv (.tmp 9)), none⟩, ⟨(some 59), (.mv (.tmp 11)), none⟩, ⟨(some 60), (.iad 2 (.tmp 58) (.tmp 59)), none⟩, ⟨(some 61), (.iadA 2 1 (.tmp 60) (.const (.int .i64 0))), none⟩, ⟨(some 62), (.ld1 (.tmp 61)), none⟩, ⟨(some 63), (.iadA 2 1 (.tmp 5) (.const (.int .i64 1))), none⟩, ⟨(some 64), (.ld1 (.tmp 63)), none⟩, ⟨(some 65), (.cmp .eql (.tmp 62) (.tmp 64)), none⟩])
    (.cond (.tmp 65)
    (.reg [⟨(some 66), (.mv (.tmp 11)), none⟩, ⟨(some 10), (.mv (.tmp 66)), none⟩]) .skip)))
    (.reg [⟨(some 56), (.mv (.tmp 11)), none⟩, ⟨(some 57), (.ar .add (.tmp 56) (.const (.int .i64 1))), none⟩, ⟨(some 11), (.mv (.tmp 57)), none⟩]))))))
    (.seq (.seq
    (.reg [⟨(some 12), (.mv (.const (.int .i64 0))), none⟩])
    (.block 2
    (.loop (.seq
    (.seq (.reg [⟨(some 67), (.mv (.tmp 12)), none⟩, ⟨(some 68), (.fad 2 (.tmp 3)), none⟩, ⟨(some 69), (.ld1 (.tmp 68)), none⟩, ⟨(some 70), (.ar .add (.tmp 69) (.const (.int .i64 20))), none⟩, ⟨(some 71), (.cmp .lss (.tmp 67) (.tmp 70)), none⟩])
    (.cond (.tmp 71) .skip (.exit 2)))
    (.seq (.block 3
    (.seq (.reg [⟨(some 74), (.mv (.tmp 8)), none⟩, ⟨(some 75), (.mv (.tmp 7)), none⟩, ⟨(some 76), (.call 31 [(.tmp 74), (.tmp 75)]), none⟩])
    (.seq (.draw (.take ⟨(some 77), (.ldn 3 (.tmp 3)), none⟩ (.take ⟨(some 78), (.mv (.tmp 7)), none⟩ (.alt false ⟨(some 79), (.call 40 [(.tmp 78)]), none⟩ (.alt false ⟨(some 80), (.call 38 [(.tmp 77), (.tmp 79)]), none⟩ (.take ⟨(some 81), (.nt (.tmp 80)), none⟩ .done) .stop) .stop))))
    (.cond (.tmp 81)
    (.seq (.reg [⟨(some 6), (.mv (.const (.bool false))), none⟩]) .ret) .skip))))
    (.reg [⟨(some 72), (.mv (.tmp 12)), none⟩, ⟨(some 73), (.ar .add (.tmp 72) (.const (.int .i64 1))), none⟩, ⟨(some 12), (.mv (.tmp 73)), none⟩]))))))
    (.seq (.draw (.take ⟨(some 82), (.ldn 3 (.tmp 3)), none⟩ (.take ⟨(some 83), (.mv (.tmp 7)), none⟩ (.alt false ⟨(some 84), (.call 40 [(.tmp 83)]), none⟩ (.alt false ⟨(some 85), (.call 41 [(.tmp 82), (.tmp 84)]), none⟩ (.take ⟨(some 13), (.mv (.tmp 85)), none⟩ .done) .stop) .stop))))
    (.seq (.seq
    (.reg [⟨(some 86), (.mv (.tmp 8)), none⟩, ⟨(some 87), (.call 32 [(.tmp 86)]), none⟩, ⟨(some 88), (.nt (.tmp 87)), none⟩, ⟨(some 89), (.mv (.tmp 88)), none⟩, ⟨(some 90), (.mv (.tmp 8)), (some (89, false))⟩, ⟨(some 91), (.call 33 [(.tmp 90)]), (some (89, false))⟩, ⟨(some 92), (.mv (.tmp 10)), (some (89, false))⟩, ⟨(some 93), (.cmp .geq (.tmp 92) (.const (.int .i64 0))), (some (89, false))⟩, ⟨(some 94), (.beq true (.tmp 91) (.tmp 93)), (some (89, false))⟩, ⟨(some 95), (.pick (.tmp 89) (.const (.bool true)) (.tmp 94)), none⟩])
    (.cond (.tmp 95)
    (.seq (.reg [⟨(some 6), (.mv (.const (.bool false))), none⟩]) .ret) .skip))
    (.seq (.seq
    (.reg [⟨(some 96), (.mv (.tmp 10)), none⟩, ⟨(some 97), (.cmp .lss (.tmp 96) (.const (.int .i64 0))), none⟩])
    (.cond (.tmp 97)
    (.seq (.reg [⟨(some 98), (.mv (.tmp 7)), none⟩, ⟨(some 99), (.call 40 [(.tmp 98)]), none⟩, ⟨(some 100), (.mv (.tmp 1)), none⟩, ⟨(some 101), (.call 43 [(.tmp 99), (.tmp 100)]), none⟩, ⟨(some 6), (.mv (.tmp 101)), none⟩]) .ret) .skip))
    (.seq (.seq
    (.reg [⟨(some 102), (.mv (.tmp 13)), none⟩, ⟨(some 103), (.len (.tmp 102)), none⟩, ⟨(some 104), (.mv (.tmp 9)), none⟩, ⟨(some 105), (.len (.tmp 104)), none⟩, ⟨(some 106), (.ar .sub (.tmp 105) (.const (.int .i64 1))), none⟩, ⟨(some 107), (.cmp .neq (.tmp 103) (.tmp 106)), none⟩])
    (.cond (.tmp 107)
    (.seq (.reg [⟨(some 6), (.mv (.const (.bool false))), none⟩]) .ret) .skip))
    (.seq (.seq
    (.reg [⟨(some 14), (.mv (.const (.int .i64 0))), none⟩])
    (.block 4
    (.loop (.seq
    (.seq (.reg [⟨(some 108), (.mv (.tmp 14)), none⟩, ⟨(some 109), (.mv (.tmp 13)), none⟩, ⟨(some 110), (.len (.tmp 109)), none⟩, ⟨(some 111), (.cmp .lss (.tmp 108) (.tmp 110)), none⟩])
    (.cond (.tmp 111) .skip (.exit 4)))
    (.seq (.block 5
    (.seq (.reg [⟨(some 114), (.mv (.tmp 14)), none⟩, ⟨(some 15), (.mv (.tmp 114)), none⟩])
    (.seq (.seq
    (.reg [⟨(some 115), (.mv (.tmp 14)), none⟩, ⟨(some 116), (.mv (.tmp 10)), none⟩, ⟨(some 117), (.cmp .geq (.tmp 115) (.tmp 116)), none⟩])
    (.cond (.tmp 117)
    (.reg [⟨(some 118), (.mv (.tmp 15)), none⟩, ⟨(some 119), (.ar .add (.tmp 118) (.const (.int .i64 1))), none⟩, ⟨(some 15), (.mv (.tmp 119)), none⟩]) .skip))
    (.seq .no
    (.cond (.tmp 128)
    (.seq (.reg [⟨(some 6), (.mv (.const (.bool false))), none⟩]) .ret) .skip)))))
    (.reg [⟨(some 112), (.mv (.tmp 14)), none⟩, ⟨(some 113), (.ar .add (.tmp 112) (.const (.int .i64 1))), none⟩, ⟨(some 14), (.mv (.tmp 113)), none⟩]))))))
    (.seq (.reg [⟨(some 6), (.mv (.const (.bool true))), none⟩]) .ret))))))))))))))))⟩ := by kernel_rfl

/-- allotment/allotmentlaw14.RunPlays -/
theorem tr9 : trF Try.prog pures Try.f9 = some
  ⟨113, [(.t 6)],
    (.seq (.reg [⟨(some 3), (.box 25 (.tmp 0)), none⟩, ⟨(some 5), (.box 59 (.tmp 2)), none⟩, ⟨(some 6), (.mv (.const (.bool false))), none⟩])
    (.seq (.seq
    (.reg [⟨(some 14), (.call 15 []), none⟩, ⟨(some 15), (.nt (.tmp 14)), none⟩])
    (.cond (.tmp 15)
    (.seq (.reg [⟨(some 6), (.mv (.const (.bool false))), none⟩]) .ret) .skip))
    (.seq (.seq
    (.reg [⟨(some 16), (.ldn 3 (.tmp 3)), none⟩, ⟨(some 17), (.mv (.tmp 1)), none⟩, ⟨(some 18), (.call 37 [(.tmp 16), (.tmp 17)]), none⟩, ⟨(some 19), (.nt (.tmp 18)), none⟩])
    (.cond (.tmp 19)
    (.seq (.reg [⟨(some 6), (.mv (.const (.bool true))), none⟩]) .ret) .skip))
    (.seq (.reg [⟨(some 20), (.mv (.tmp 1)), none⟩, ⟨(some 21), (.call 22 [(.tmp 20)]), none⟩, ⟨(some 22), (.mv (.tmp 1)), none⟩, ⟨(some 23), (.call 44 [(.tmp 22)]), none⟩, ⟨(some 7), (.mv (.tmp 21)), none⟩, ⟨(some 8), (.mv (.tmp 23)), none⟩])
    (.seq (.draw (.take ⟨(some 24), (.ldn 3 (.tmp 3)), none⟩ (.take ⟨(some 25), (.iadA 2 1 (.tmp 5) (.const (.int .i64 0))), none⟩ (.take ⟨(some 26), (.ld1 (.tmp 25)), none⟩ (.take ⟨(some 27), (.iadA 2 1 (.tmp 5) (.const (.int .i64 1))), none⟩ (.take ⟨(some 28), (.ld1 (.tmp 27)), none⟩ (.take ⟨(some 30), (.ldn 3 (.tmp 3)), none⟩ (.take ⟨(some 31), (.iadA 2 1 (.tmp 5) (.const (.int .i64 0))), none⟩ (.take ⟨(some 32), (.ld1 (.tmp 31)), none⟩ (.take ⟨(some 33), (.iadA 2 1 (.tmp 5) (.const (.int .i64 1))), none⟩ (.take ⟨(some 34), (.ld1 (.tmp 33)), none⟩ (.alt false ⟨(some 29), (.call 23 [(.tmp 24), (.tmp 26), (.tmp 28)]), none⟩ (.alt false ⟨(some 35), (.call 45 [(.tmp 30), (.tmp 32), (.tmp 34)]), none⟩ (.take ⟨(some 9), (.mv (.tmp 29)), none⟩ (.take ⟨(some 10), (.mv (.tmp 35)), none⟩ .done)) .stop) .stop))))))))))))
    (.seq (.seq
    (.reg [⟨(some 36), (.mv (.tmp 7)), none⟩, ⟨(some 37), (.pnil false (.tmp 36)), none⟩, ⟨(some 38), (.mv (.tmp 37)), none⟩, ⟨(some 39), (.mv (.tmp 9)), (some (38, false))⟩, ⟨(some 40), (.pnil false (.tmp 39)), (some (38, false))⟩, ⟨(some 41), (.pick (.tmp 38) (.const (.bool true)) (.tmp 40)), none⟩])
    (.cond (.tmp 41)
    (.seq (.reg [⟨(some 6), (.mv (.const (.bool false))), none⟩]) .ret) .skip))
    (.seq (.seq
    (.reg [⟨(some 11), (.mv (.const (.int .i64 0))), none⟩])
    (.block 0
    (.loop (.seq
    (.seq (.reg [⟨(some 42), (.mv (.tmp 11)), none⟩, ⟨(some 43), (.fad 0 (.tmp 3)), none⟩, ⟨(some 44), (.ld1 (.tmp 43)), none⟩, ⟨(some 45), (.ar .mul (.const (.int .i64 60)) (.tmp 44)), none⟩, ⟨(some 46), (.ar .add (.tmp 45) (.const (.int .i64 20))), none⟩, ⟨(some 47), (.cmp .lss (.tmp 42) (.tmp 46)), none⟩])
    (.cond (.tmp 47) .skip (.exit 0)))
    (.seq (.block 1
    (.seq (.reg [⟨(some 51), (.mv (.tmp 9)), none⟩, ⟨(some 52), (.call 25 [(.tmp 51)]), none⟩, ⟨(some 50), (.mv (.tmp 52)), none⟩, ⟨(some 53), (.ext 0 (.tmp 50)), none⟩, ⟨(some 54), (.ext 1 (.tmp 50)), none⟩, ⟨(some 12), (.mv (.tmp 53)), none⟩, ⟨(some 13), (.mv (.tmp 54)), none⟩])
    (.seq (.seq
    (.reg [⟨(some 55), (.mv (.tmp 13)), none⟩, ⟨(some 56), (.mv (.tmp 10)), none⟩, ⟨(some 57), (.nilck (.tmp 56)), none⟩, ⟨(some 58), (.fad 7 (.tmp 57)), none⟩, ⟨(some 59), (.ld1 (.tmp 58)), none⟩, ⟨(some 60), (.beq true (.tmp 55) (.tmp 59)), none⟩, ⟨(some 61), (.mv (.tmp 60)), none⟩, ⟨(some 62), (.mv (.tmp 13)), (some (61, false))⟩, ⟨(some 63), (.mv (.tmp 62)), (some (61, false))⟩, ⟨(some 64), (.mv (.tmp 12)), (some (63, true))⟩, ⟨(some 65), (.mv (.tmp 10)), (some (63, true))⟩, ⟨(some 66), (.nilck (.tmp 65)), (some (63, true))⟩, ⟨(some 67), (.fad 5 (.tmp 66)), (some (63, true))⟩, ⟨(some 68), (.ld1 (.tmp 67)), (some (63, true))⟩, ⟨(some 69), (.cmp .neq (.tmp 64) (.tmp 68)), (some (63, true))⟩, ⟨(some 70), (.pick (.tmp 63) (.tmp 69) (.const (.bool false))), (some (61, false))⟩, ⟨(some 71), (.pick (.tmp 61) (.const (.bool true)) (.tmp 70)), none⟩, ⟨(some 72), (.mv (.tmp 71)), none⟩, ⟨(some 73), (.mv (.tmp 13)), (some (72, false))⟩, ⟨(some 74), (.nt (.tmp 73)), (some (72, false))⟩, ⟨(some 75), (.mv (.tmp 74)), (some (72, false))⟩, ⟨(some 76), (.mv (.tmp 12)), (some (75, true))⟩, ⟨(some 77), (.cmp .neq (.tmp 76) (.const (.int .i64 0))), (some (75, true))⟩, ⟨(some 78), (.pick (.tmp 75) (.tmp 77) (.const (.bool false))), (some (72, false))⟩, ⟨(some 79), (.pick (.tmp 72) (.const (.bool true)) (.tmp 78)), none⟩])
    (.cond (.tmp 79)
    (.seq (.reg [⟨(some 6), (.mv (.const (.bool false))), none⟩]) .ret) .skip))
    (.seq (.seq
    (.draw (.take ⟨(some 80), (.mv (.tmp 9)), none⟩ (.take ⟨(some 82), (.mv (.tmp 10)), none⟩ (.take ⟨(some 83), (.nilck (.tmp 82)), none⟩ (.take ⟨(some 84), (.fad 8 (.tmp 83)), none⟩ (.take ⟨(some 85), (.ld1 (.tmp 84)), none⟩ (.alt false ⟨(some 81), (.call 26 [(.tmp 80)]), none⟩ (.take ⟨(some 86), (.beq true (.tmp 81) (.tmp 85)), none⟩ .done) .stop)))))))
    (.cond (.tmp 86)
    (.seq (.reg [⟨(some 6), (.mv (.const (.bool false))), none⟩]) .ret) .skip))
    (.seq (.seq
    (.reg [⟨(some 87), (.mv (.tmp 9)), none⟩, ⟨(some 88), (.call 26 [(.tmp 87)]), none⟩])
    (.cond (.tmp 88) (.exit 0) .skip))
    (.seq (.reg [⟨(some 89), (.mv (.tmp 9)), none⟩, ⟨(some 90), (.mv (.tmp 7)), none⟩, ⟨(some 91), (.call 24 [(.tmp 89), (.tmp 90)]), none⟩])
    (.seq (.reg [⟨(some 92), (.mv (.tmp 10)), none⟩, ⟨(some 93), (.mv (.tmp 8)), none⟩, ⟨(some 94), (.call 46 [(.tmp 92), (.tmp 93)]), none⟩])
    (.seq (.reg [⟨(some 95), (.mv (.tmp 7)), none⟩, ⟨(some 96), (.mv (.tmp 8)), none⟩, ⟨(some 97), (.call 47 [(.tmp 95), (.tmp 96)]), none⟩, ⟨(some 98), (.nt (.tmp 97)), none⟩])
    (.cond (.tmp 98)
    (.seq (.reg [⟨(some 6), (.mv (.const (.bool false))), none⟩]) .ret) .skip)))))))))
    (.reg [⟨(some 48), (.mv (.tmp 11)), none⟩, ⟨(some 49), (.ar .add (.tmp 48) (.const (.int .i64 1))), none⟩, ⟨(some 11), (.mv (.tmp 49)), none⟩]))))))
    (.seq (.reg [⟨(some 99), (.mv (.tmp 9)), none⟩, ⟨(some 100), (.mv (.tmp 7)), none⟩, ⟨(some 101), (.call 24 [(.tmp 99), (.tmp 100)]), none⟩])
    (.seq (.draw (.take ⟨(some 102), (.mv (.tmp 9)), none⟩ (.alt false ⟨(some 103), (.call 26 [(.tmp 102)]), none⟩ (.take ⟨(some 104), (.mv (.tmp 103)), none⟩ (.take ⟨(some 105), (.mv (.tmp 7)), (some (104, true))⟩ (.take ⟨(some 107), (.mv (.tmp 8)), (some (104, true))⟩ (.take ⟨(some 108), (.nilck (.tmp 107)), (some (104, true))⟩ (.take ⟨(some 109), (.fad 1 (.tmp 108)), (some (104, true))⟩ (.take ⟨(some 110), (.ld1 (.tmp 109)), (some (104, true))⟩ (.alt false ⟨(some 106), (.call 36 [(.tmp 105)]), (some (104, true))⟩ (.take ⟨(some 111), (.cmp .eql (.tmp 106) (.tmp 110)), (some (104, true))⟩ (.take ⟨(some 112), (.pick (.tmp 104) (.tmp 111) (.const (.bool false))), none⟩ (.take ⟨(some 6), (.mv (.tmp 112)), none⟩ .done))) .stop))))))) .stop))) .ret)))))))))⟩ := by kernel_rfl

/-- allotment/allotmentlaw16.GivePlays -/
theorem tr10 : trF Try.prog pures Try.f10 = some
  ⟨87, [(.t 6)],
    (.seq (.reg [⟨(some 3), (.box 25 (.tmp 0)), none⟩, ⟨(some 5), (.box 59 (.tmp 2)), none⟩, ⟨(some 6), (.mv (.const (.bool false))), none⟩])
    (.seq (.seq
    (.reg [⟨(some 12), (.call 28 []), none⟩, ⟨(some 13), (.nt (.tmp 12)), none⟩])
    (.cond (.tmp 13)
    (.seq (.reg [⟨(some 6), (.mv (.const (.bool false))), none⟩]) .ret) .skip))
    (.seq (.seq
    (.reg [⟨(some 14), (.ldn 3 (.tmp 3)), none⟩, ⟨(some 15), (.mv (.tmp 1)), none⟩, ⟨(some 16), (.call 37 [(.tmp 14), (.tmp 15)]), none⟩, ⟨(some 17), (.nt (.tmp 16)), none⟩])
    (.cond (.tmp 17)
    (.seq (.reg [⟨(some 6), (.mv (.const (.bool true))), none⟩]) .ret) .skip))
    (.seq (.reg [⟨(some 18), (.mv (.tmp 1)), none⟩, ⟨(some 19), (.call 22 [(.tmp 18)]), none⟩, ⟨(some 20), (.mv (.tmp 1)), none⟩, ⟨(some 21), (.call 44 [(.tmp 20)]), none⟩, ⟨(some 7), (.mv (.tmp 19)), none⟩, ⟨(some 8), (.mv (.tmp 21)), none⟩])
    (.seq (.draw (.take ⟨(some 22), (.ldn 3 (.tmp 3)), none⟩ (.take ⟨(some 23), (.iadA 2 1 (.tmp 5) (.const (.int .i64 0))), none⟩ (.take ⟨(some 24), (.ld1 (.tmp 23)), none⟩ (.take ⟨(some 25), (.iadA 2 1 (.tmp 5) (.const (.int .i64 1))), none⟩ (.take ⟨(some 26), (.ld1 (.tmp 25)), none⟩ (.take ⟨(some 28), (.ldn 3 (.tmp 3)), none⟩ (.take ⟨(some 29), (.iadA 2 1 (.tmp 5) (.const (.int .i64 0))), none⟩ (.take ⟨(some 30), (.ld1 (.tmp 29)), none⟩ (.take ⟨(some 31), (.iadA 2 1 (.tmp 5) (.const (.int .i64 1))), none⟩ (.take ⟨(some 32), (.ld1 (.tmp 31)), none⟩ (.alt false ⟨(some 27), (.call 30 [(.tmp 22), (.tmp 24), (.tmp 26)]), none⟩ (.alt false ⟨(some 33), (.call 48 [(.tmp 28), (.tmp 30), (.tmp 32)]), none⟩ (.take ⟨(some 9), (.mv (.tmp 27)), none⟩ (.take ⟨(some 10), (.mv (.tmp 33)), none⟩ .done)) .stop) .stop))))))))))))
    (.seq (.seq
    (.reg [⟨(some 34), (.mv (.tmp 7)), none⟩, ⟨(some 35), (.pnil false (.tmp 34)), none⟩, ⟨(some 36), (.mv (.tmp 35)), none⟩, ⟨(some 37), (.mv (.tmp 9)), (some (36, false))⟩, ⟨(some 38), (.pnil false (.tmp 37)), (some (36, false))⟩, ⟨(some 39), (.pick (.tmp 36) (.const (.bool true)) (.tmp 38)), none⟩])
    (.cond (.tmp 39)
    (.seq (.reg [⟨(some 6), (.mv (.const (.bool false))), none⟩]) .ret) .skip))
    (.seq (.seq
    (.reg [⟨(some 11), (.mv (.const (.int .i64 0))), none⟩])
    (.block 0
    (.loop (.seq
    (.seq (.reg [⟨(some 40), (.mv (.tmp 11)), none⟩, ⟨(some 41), (.fad 2 (.tmp 3)), none⟩, ⟨(some 42), (.ld1 (.tmp 41)), none⟩, ⟨(some 43), (.ar .add (.tmp 42) (.const (.int .i64 20))), none⟩, ⟨(some 44), (.cmp .lss (.tmp 40) (.tmp 43)), none⟩])
    (.cond (.tmp 44) .skip (.exit 0)))
    (.seq (.block 1
    (.seq (.seq
    (.draw (.take ⟨(some 47), (.mv (.tmp 9)), none⟩ (.take ⟨(some 49), (.mv (.tmp 10)), none⟩ (.take ⟨(some 50), (.nilck (.tmp 49)), none⟩ (.take ⟨(some 51), (.fad 5 (.tmp 50)), none⟩ (.take ⟨(some 52), (.ld1 (.tmp 51)), none⟩ (.alt false ⟨(some 48), (.call 33 [(.tmp 47)]), none⟩ (.take ⟨(some 53), (.beq true (.tmp 48) (.tmp 52)), none⟩ .done) .stop)))))))
    (.cond (.tmp 53)
    (.seq (.reg [⟨(some 6), (.mv (.const (.bool false))), none⟩]) .ret) .skip))
    (.seq (.seq
    (.draw (.take ⟨(some 54), (.mv (.tmp 9)), none⟩ (.take ⟨(some 56), (.mv (.tmp 10)), none⟩ (.take ⟨(some 57), (.nilck (.tmp 56)), none⟩ (.take ⟨(some 58), (.fad 6 (.tmp 57)), none⟩ (.take ⟨(some 59), (.ld1 (.tmp 58)), none⟩ (.alt false ⟨(some 55), (.call 32 [(.tmp 54)]), none⟩ (.take ⟨(some 60), (.beq true (.tmp 55) (.tmp 59)), none⟩ .done) .stop)))))))
    (.cond (.tmp 60)
    (.seq (.reg [⟨(some 6), (.mv (.const (.bool false))), none⟩]) .ret) .skip))
    (.seq (.seq
    (.reg [⟨(some 61), (.mv (.tmp 9)), none⟩, ⟨(some 62), (.call 32 [(.tmp 61)]), none⟩])
    (.cond (.tmp 62) (.exit 0) .skip))
    (.seq (.reg [⟨(some 63), (.mv (.tmp 9)), none⟩, ⟨(some 64), (.mv (.tmp 7)), none⟩, ⟨(some 65), (.call 31 [(.tmp 63), (.tmp 64)]), none⟩])
    (.seq (.reg [⟨(some 66), (.mv (.tmp 10)), none⟩, ⟨(some 67), (.mv (.tmp 8)), none⟩, ⟨(some 68), (.call 49 [(.tmp 66), (.tmp 67)]), none⟩])
    (.seq (.reg [⟨(some 69), (.mv (.tmp 7)), none⟩, ⟨(some 70), (.mv (.tmp 8)), none⟩, ⟨(some 71), (.call 47 [(.tmp 69), (.tmp 70)]), none⟩, ⟨(some 72), (.nt (.tmp 71)), none⟩])
    (.cond (.tmp 72)
    (.seq (.reg [⟨(some 6), (.mv (.const (.bool false))), none⟩]) .ret) .skip))))))))
    (.reg [⟨(some 45), (.mv (.tmp 11)), none⟩, ⟨(some 46), (.ar .add (.tmp 45) (.const (.int .i64 1))), none⟩, ⟨(some 11), (.mv (.tmp 46)), none⟩]))))))
    (.seq (.reg [⟨(some 73), (.mv (.tmp 9)), none⟩, ⟨(some 74), (.mv (.tmp 7)), none⟩, ⟨(some 75), (.call 31 [(.tmp 73), (.tmp 74)]), none⟩])
    (.seq (.draw (.take ⟨(some 76), (.mv (.tmp 9)), none⟩ (.alt false ⟨(some 77), (.call 32 [(.tmp 76)]), none⟩ (.take ⟨(some 78), (.mv (.tmp 77)), none⟩ (.take ⟨(some 79), (.mv (.tmp 7)), (some (78, true))⟩ (.take ⟨(some 81), (.mv (.tmp 8)), (some (78, true))⟩ (.take ⟨(some 82), (.nilck (.tmp 81)), (some (78, true))⟩ (.take ⟨(some 83), (.fad 1 (.tmp 82)), (some (78, true))⟩ (.take ⟨(some 84), (.ld1 (.tmp 83)), (some (78, true))⟩ (.alt false ⟨(some 80), (.call 36 [(.tmp 79)]), (some (78, true))⟩ (.take ⟨(some 85), (.cmp .eql (.tmp 80) (.tmp 84)), (some (78, true))⟩ (.take ⟨(some 86), (.pick (.tmp 78) (.tmp 85) (.const (.bool false))), none⟩ (.take ⟨(some 6), (.mv (.tmp 86)), none⟩ .done))) .stop))))))) .stop))) .ret)))))))))⟩ := by kernel_rfl

/-- allotment/allotmentlaw18.AdoptTwo -/
theorem tr11 : trF Try.prog pures Try.f11 = some
  ⟨123, [(.t 6)],
    (.seq (.reg [⟨(some 3), (.box 25 (.tmp 0)), none⟩, ⟨(some 6), (.mv (.const (.bool false))), none⟩])
    (.seq (.seq
    (.reg [⟨(some 14), (.call 50 []), none⟩, ⟨(some 15), (.nt (.tmp 14)), none⟩])
    (.cond (.tmp 15)
    (.seq (.reg [⟨(some 6), (.mv (.const (.bool false))), none⟩]) .ret) .skip))
    (.seq (.seq
    (.reg [⟨(some 16), (.ldn 3 (.tmp 3)), none⟩, ⟨(some 17), (.mv (.tmp 1)), none⟩, ⟨(some 18), (.call 37 [(.tmp 16), (.tmp 17)]), none⟩, ⟨(some 19), (.nt (.tmp 18)), none⟩, ⟨(some 20), (.mv (.tmp 19)), none⟩, ⟨(some 21), (.fad 1 (.tmp 3)), (some (20, false))⟩, ⟨(some 22), (.ld1 (.tmp 21)), (some (20, false))⟩, ⟨(some 23), (.cmp .lss (.tmp 22) (.const (.int .i64 3))), (some (20, false))⟩, ⟨(some 24), (.pick (.tmp 20) (.const (.bool true)) (.tmp 23)), none⟩])
    (.cond (.tmp 24)
    (.seq (.reg [⟨(some 6), (.mv (.const (.bool true))), none⟩]) .ret) .skip))
    (.seq (.reg [⟨(some 25), (.mv (.tmp 1)), none⟩, ⟨(some 26), (.call 22 [(.tmp 25)]), none⟩, ⟨(some 7), (.mv (.tmp 26)), none⟩])
    (.seq (.draw (.take ⟨(some 27), (.ldn 3 (.tmp 3)), none⟩ (.take ⟨(some 29), (.ldn 3 (.tmp 3)), none⟩ (.alt false ⟨(some 28), (.call 51 [(.tmp 27), (.const (.int .i64 0)), (.const (.int .i64 2))]), none⟩ (.alt false ⟨(some 30), (.call 51 [(.tmp 29), (.const (.int .i64 1)), (.const (.int .i64 2))]), none⟩ (.take ⟨(some 8), (.mv (.tmp 28)), none⟩ (.take ⟨(some 9), (.mv (.tmp 30)), none⟩ .done)) .stop) .stop))))
    (.seq (.seq
    (.reg [⟨(some 31), (.mv (.tmp 7)), none⟩, ⟨(some 32), (.pnil false (.tmp 31)), none⟩, ⟨(some 33), (.mv (.tmp 32)), none⟩, ⟨(some 34), (.mv (.tmp 8)), (some (33, false))⟩, ⟨(some 35), (.pnil false (.tmp 34)), (some (33, false))⟩, ⟨(some 36), (.pick (.tmp 33) (.const (.bool true)) (.tmp 35)), none⟩, ⟨(some 37), (.mv (.tmp 36)), none⟩, ⟨(some 38), (.mv (.tmp 9)), (some (37, false))⟩, ⟨(some 39), (.pnil false (.tmp 38)), (some (37, false))⟩, ⟨(some 40), (.pick (.tmp 37) (.const (.bool true)) (.tmp 39)), none⟩])
    (.cond (.tmp 40)
    (.seq (.reg [⟨(some 6), (.mv (.const (.bool false))), none⟩]) .ret) .skip))
    (.seq (.reg [⟨(some 41), (.mv (.tmp 7)), none⟩, ⟨(some 42), (.pcall 53 [(.const (.int .i64 1)), (.const (.int .i64 0))]), none⟩, ⟨(some 43), (.call 52 [(.tmp 41), (.const (.int .i64 0)), (.tmp 42)]), none⟩])
    (.seq (.reg [⟨(some 44), (.mv (.tmp 7)), none⟩, ⟨(some 45), (.pcall 53 [(.const (.int .i64 1)), (.const (.int .i64 0))]), none⟩, ⟨(some 46), (.call 52 [(.tmp 44), (.const (.int .i64 1)), (.tmp 45)]), none⟩])
    (.seq (.reg [⟨(some 47), (.mv (.tmp 7)), none⟩, ⟨(some 48), (.pcall 53 [(.const (.int .i64 2)), (.const (.int .i64 0))]), none⟩, ⟨(some 49), (.call 52 [(.tmp 47), (.const (.int .i64 2)), (.tmp 48)]), none⟩])
    (.seq (.reg [⟨(some 50), (.fad 0 (.tmp 3)), none⟩, ⟨(some 51), (.ld1 (.tmp 50)), none⟩, ⟨(some 52), (.ar .mul (.const (.int .i64 60)) (.tmp 51)), none⟩, ⟨(some 53), (.fad 2 (.tmp 3)), none⟩, ⟨(some 54), (.ld1 (.tmp 53)), none⟩, ⟨(some 55), (.ar .add (.tmp 52) (.tmp 54)), none⟩, ⟨(some 56), (.ar .add (.tmp 55) (.const (.int .i64 20))), none⟩, ⟨(some 10), (.mv (.tmp 56)), none⟩])
    (.seq (.seq
    (.reg [⟨(some 11), (.mv (.const (.int .i64 0))), none⟩])
    (.block 0
    (.loop (.seq
    (.seq (.reg [⟨(some 57), (.mv (.tmp 11)), none⟩, ⟨(some 58), (.mv (.tmp 10)), none⟩, ⟨(some 59), (.cmp .lss (.tmp 57) (.tmp 58)), none⟩])
    (.cond (.tmp 59) .skip (.exit 0)))
    (.seq (.block 1
    (.seq (.reg [⟨(some 62), (.mv (.tmp 11)), none⟩, ⟨(some 63), (.mv (.tmp 2)), none⟩, ⟨(some 64), (.len (.tmp 63)), none⟩, ⟨(some 65), (.cmp .lss (.tmp 62) (.tmp 64)), none⟩, ⟨(some 66), (.mv (.tmp 65)), none⟩, ⟨(some 67), (.mv (.tmp 2)), (some (66, true))⟩, ⟨(some 68), (.mv (.tmp 11)), (some (66, true))⟩, ⟨(some 69), (.iad 1 (.tmp 67) (.tmp 68)), (some (66, true))⟩, ⟨(some 70), (.ld1 (.tmp 69)), (some (66, true))⟩, ⟨(some 71), (.pick (.tmp 66) (.tmp 70) (.const (.bool false))), none⟩])
    (.cond (.tmp 71)
    (.reg [⟨(some 72), (.mv (.tmp 9)), none⟩, ⟨(some 73), (.mv (.tmp 7)), none⟩, ⟨(some 74), (.call 54 [(.tmp 72), (.tmp 73)]), none⟩])
    (.reg [⟨(some 75), (.mv (.tmp 8)), none⟩, ⟨(some 76), (.mv (.tmp 7)), none⟩, ⟨(some 77), (.call 54 [(.tmp 75), (.tmp 76)]), none⟩]))))
    (.reg [⟨(some 60), (.mv (.tmp 11)), none⟩, ⟨(some 61), (.ar .add (.tmp 60) (.const (.int .i64 1))), none⟩, ⟨(some 11), (.mv (.tmp 61)), none⟩]))))))
    (.seq (.seq
    (.reg [⟨(some 12), (.mv (.const (.int .i64 0))), none⟩])
    (.block 2
    (.loop (.seq
    (.seq (.reg [⟨(some 78), (.mv (.tmp 12)), none⟩, ⟨(some 79), (.mv (.tmp 10)), none⟩, ⟨(some 80), (.cmp .lss (.tmp 78) (.tmp 79)), none⟩])
    (.cond (.tmp 80) .skip (.exit 2)))
    (.seq (.block 3
    (.seq (.reg [⟨(some 83), (.mv (.tmp 8)), none⟩, ⟨(some 84), (.mv (.tmp 7)), none⟩, ⟨(some 85), (.call 54 [(.tmp 83), (.tmp 84)]), none⟩])
    (.reg [⟨(some 86), (.mv (.tmp 9)), none⟩, ⟨(some 87), (.mv (.tmp 7)), none⟩, ⟨(some 88), (.call 54 [(.tmp 86), (.tmp 87)]), none⟩])))
    (.reg [⟨(some 81), (.mv (.tmp 12)), none⟩, ⟨(some 82), (.ar .add (.tmp 81) (.const (.int .i64 1))), none⟩, ⟨(some 12), (.mv (.tmp 82)), none⟩]))))))
    (.seq (.seq
    (.reg [⟨(some 89), (.mv (.tmp 8)), none⟩, ⟨(some 90), (.call 55 [(.tmp 89)]), none⟩, ⟨(some 91), (.nt (.tmp 90)), none⟩, ⟨(some 92), (.mv (.tmp 91)), none⟩, ⟨(some 93), (.mv (.tmp 9)), (some (92, false))⟩, ⟨(some 94), (.call 55 [(.tmp 93)]), (some (92, false))⟩, ⟨(some 95), (.nt (.tmp 94)), (some (92, false))⟩, ⟨(some 96), (.pick (.tmp 92) (.const (.bool true)) (.tmp 95)), none⟩, ⟨(some 97), (.mv (.tmp 96)), none⟩, ⟨(some 98), (.mv (.tmp 8)), (some (97, false))⟩, ⟨(some 99), (.call 56 [(.tmp 98)]), (some (97, false))⟩, ⟨(some 100), (.cmp .eql (.tmp 99) (.const (.int .i64 0))), (some (97, false))⟩, ⟨(some 101), (.mv (.tmp 9)), (some (97, false))⟩, ⟨(some 102), (.call 56 [(.tmp 101)]), (some (97, false))⟩, ⟨(some 103), (.cmp .eql (.tmp 102) (.const (.int .i64 0))), (some (97, false))⟩, ⟨(some 104), (.beq false (.tmp 100) (.tmp 103)), (some (97, false))⟩, ⟨(some 105), (.pick (.tmp 97) (.const (.bool true)) (.tmp 104)), none⟩])
    (.cond (.tmp 105)
    (.seq (.reg [⟨(some 6), (.mv (.const (.bool false))), none⟩]) .ret) .skip))
    (.seq (.reg [⟨(some 106), (.mv (.tmp 8)), none⟩, ⟨(some 107), (.call 56 [(.tmp 106)]), none⟩, ⟨(some 108), (.mv (.tmp 9)), none⟩, ⟨(some 109), (.call 56 [(.tmp 108)]), none⟩, ⟨(some 110), (.ar .add (.tmp 107) (.tmp 109)), none⟩, ⟨(some 13), (.mv (.tmp 110)), none⟩])
    (.seq (.reg [⟨(some 111), (.mv (.tmp 13)), none⟩, ⟨(some 112), (.cmp .eql (.tmp 111) (.const (.int .i64 4))), none⟩, ⟨(some 113), (.mv (.tmp 112)), none⟩, ⟨(some 114), (.mv (.tmp 13)), (some (113, false))⟩, ⟨(some 115), (.cmp .eql (.tmp 114) (.const (.int .i64 5))), (some (113, false))⟩, ⟨(some 116), (.pick (.tmp 113) (.const (.bool true)) (.tmp 115)), none⟩, ⟨(some 117), (.mv (.tmp 116)), none⟩, ⟨(some 118), (.mv (.tmp 7)), (some (117, true))⟩, ⟨(some 119), (.call 27 [(.tmp 118), (.const (.int .i64 2))]), (some (117, true))⟩, ⟨(some 120), (.pcall 53 [(.const (.int .i64 4)), (.const (.int .i64 0))]), (some (117, true))⟩, ⟨(some 121), (.cmp .eql (.tmp 119) (.tmp 120)), (some (117, true))⟩, ⟨(some 122), (.pick (.tmp 117) (.tmp 121) (.const (.bool false))), none⟩, ⟨(some 6), (.mv (.tmp 122)), none⟩]) .ret)))))))))))))))⟩ := by kernel_rfl

/-- allotment/allotmentlaw18.AdoptStates -/
theorem tr12 : trF Try.prog pures Try.f12 = some
  ⟨115, [(.t 6)],
    (.seq (.reg [⟨(some 3), (.box 25 (.tmp 0)), none⟩, ⟨(some 5), (.box 96 (.tmp 2)), none⟩, ⟨(some 6), (.mv (.const (.bool false))), none⟩])
    (.seq (.seq
    (.reg [⟨(some 14), (.call 50 []), none⟩, ⟨(some 15), (.nt (.tmp 14)), none⟩])
    (.cond (.tmp 15)
    (.seq (.reg [⟨(some 6), (.mv (.const (.bool false))), none⟩]) .ret) .skip))
    (.seq (.seq
    (.reg [⟨(some 16), (.ldn 3 (.tmp 3)), none⟩, ⟨(some 17), (.mv (.tmp 1)), none⟩, ⟨(some 18), (.call 37 [(.tmp 16), (.tmp 17)]), none⟩, ⟨(some 19), (.nt (.tmp 18)), none⟩, ⟨(some 20), (.mv (.tmp 19)), none⟩, ⟨(some 21), (.ldn 3 (.tmp 3)), (some (20, false))⟩, ⟨(some 22), (.mv (.tmp 1)), (some (20, false))⟩, ⟨(some 23), (.call 38 [(.tmp 21), (.tmp 22)]), (some (20, false))⟩, ⟨(some 24), (.nt (.tmp 23)), (some (20, false))⟩, ⟨(some 25), (.pick (.tmp 20) (.const (.bool true)) (.tmp 24)), none⟩, ⟨(some 26), (.mv (.tmp 25)), none⟩, ⟨(some 27), (.fad 1 (.tmp 3)), (some (26, false))⟩, ⟨(some 28), (.ld1 (.tmp 27)), (some (26, false))⟩, ⟨(some 29), (.cmp .lss (.tmp 28) (.const (.int .i64 3))), (some (26, false))⟩, ⟨(some 30), (.pick (.tmp 26) (.const (.bool true)) (.tmp 29)), none⟩])
    (.cond (.tmp 30)
    (.seq (.reg [⟨(some 6), (.mv (.const (.bool true))), none⟩]) .ret) .skip))
    (.seq (.reg [⟨(some 31), (.mv (.tmp 1)), none⟩, ⟨(some 32), (.call 22 [(.tmp 31)]), none⟩, ⟨(some 7), (.mv (.tmp 32)), none⟩])
    (.seq (.reg [⟨(some 33), (.ldn 3 (.tmp 3)), none⟩, ⟨(some 34), (.call 51 [(.tmp 33), (.const (.int .i64 0)), (.const (.int .i64 1))]), none⟩, ⟨(some 8), (.mv (.tmp 34)), none⟩])
    (.seq (.seq
    (.reg [⟨(some 35), (.mv (.tmp 7)), none⟩, ⟨(some 36), (.pnil false (.tmp 35)), none⟩, ⟨(some 37), (.mv (.tmp 36)), none⟩, ⟨(some 38), (.mv (.tmp 8)), (some (37, false))⟩, ⟨(some 39), (.pnil false (.tmp 38)), (some (37, false))⟩, ⟨(some 40), (.pick (.tmp 37) (.const (.bool true)) (.tmp 39)), none⟩])
    (.cond (.tmp 40)
    (.seq (.reg [⟨(some 6), (.mv (.const (.bool false))), none⟩]) .ret) .skip))
    (.seq (.reg [⟨(some 41), (.iadA 3 1 (.tmp 5) (.const (.int .i64 0))), none⟩, ⟨(some 42), (.ld1 (.tmp 41)), none⟩, ⟨(some 43), (.cv .i64 (.tmp 42)), none⟩, ⟨(some 44), (.dv .rem (.tmp 43) (.const (.int .i64 5))), none⟩, ⟨(some 45), (.iadA 3 1 (.tmp 5) (.const (.int .i64 1))), none⟩, ⟨(some 46), (.ld1 (.tmp 45)), none⟩, ⟨(some 47), (.cv .i64 (.tmp 46)), none⟩, ⟨(some 48), (.dv .rem (.tmp 47) (.const (.int .i64 5))), none⟩, ⟨(some 9), (.mv (.tmp 44)), none⟩, ⟨(some 10), (.mv (.tmp 48)), none⟩])
    (.seq (.seq
    (.reg [⟨(some 49), (.mv (.tmp 10)), none⟩, ⟨(some 50), (.cmp .eql (.tmp 49) (.const (.int .i64 3))), none⟩])
    (.cond (.tmp 50)
    (.reg [⟨(some 10), (.mv (.const (.int .i64 2))), none⟩]) .skip))
    (.seq (.reg [⟨(some 51), (.mv (.tmp 9)), none⟩, ⟨(some 52), (.pcall 53 [(.tmp 51), (.const (.int .i64 0))]), none⟩, ⟨(some 11), (.mv (.tmp 52)), none⟩])
    (.seq (.seq
    (.reg [⟨(some 53), (.mv (.tmp 9)), none⟩, ⟨(some 54), (.cmp .eql (.tmp 53) (.const (.int .i64 3))), none⟩])
    (.cond (.tmp 54)
    (.reg [⟨(some 55), (.pcall 53 [(.const (.int .i64 3)), (.const (.int .i64 2))]), none⟩, ⟨(some 11), (.mv (.tmp 55)), none⟩]) .skip))
    (.seq (.reg [⟨(some 56), (.mv (.tmp 7)), none⟩, ⟨(some 57), (.mv (.tmp 11)), none⟩, ⟨(some 58), (.call 52 [(.tmp 56), (.const (.int .i64 1)), (.tmp 57)]), none⟩])
    (.seq (.reg [⟨(some 59), (.mv (.tmp 7)), none⟩, ⟨(some 60), (.mv (.tmp 10)), none⟩, ⟨(some 61), (.pcall 53 [(.tmp 60), (.const (.int .i64 0))]), none⟩, ⟨(some 62), (.call 52 [(.tmp 59), (.const (.int .i64 2)), (.tmp 61)]), none⟩])
    (.seq (.seq
    (.reg [⟨(some 12), (.mv (.const (.int .i64 0))), none⟩])
    (.block 0
    (.loop (.seq
    (.seq (.reg [⟨(some 63), (.mv (.tmp 12)), none⟩, ⟨(some 64), (.fad 0 (.tmp 3)), none⟩, ⟨(some 65), (.ld1 (.tmp 64)), none⟩, ⟨(some 66), (.ar .mul (.const (.int .i64 60)) (.tmp 65)), none⟩, ⟨(some 67), (.fad 2 (.tmp 3)), none⟩, ⟨(some 68), (.ld1 (.tmp 67)), none⟩, ⟨(some 69), (.ar .add (.tmp 66) (.tmp 68)), none⟩, ⟨(some 70), (.ar .add (.tmp 69) (.const (.int .i64 20))), none⟩, ⟨(some 71), (.cmp .lss (.tmp 63) (.tmp 70)), none⟩])
    (.cond (.tmp 71) .skip (.exit 0)))
    (.seq (.block 1
    (.reg [⟨(some 74), (.mv (.tmp 8)), none⟩, ⟨(some 75), (.mv (.tmp 7)), none⟩, ⟨(some 76), (.call 54 [(.tmp 74), (.tmp 75)]), none⟩]))
    (.reg [⟨(some 72), (.mv (.tmp 12)), none⟩, ⟨(some 73), (.ar .add (.tmp 72) (.const (.int .i64 1))), none⟩, ⟨(some 12), (.mv (.tmp 73)), none⟩]))))))
    (.seq (.reg [⟨(some 13), (.mv (.const (.int .i64 5))), none⟩])
    (.seq (.block 2
    (.seq (.reg [⟨(some 78), (.mv (.tmp 9)), none⟩, ⟨(some 79), (.cmp .eql (.tmp 78) (.const (.int .i64 2))), none⟩, ⟨(some 80), (.mv (.tmp 79)), none⟩, ⟨(some 81), (.mv (.tmp 9)), (some (80, false))⟩, ⟨(some 82), (.cmp .eql (.tmp 81) (.const (.int .i64 3))), (some (80, false))⟩, ⟨(some 83), (.mv (.tmp 82)), (some (80, false))⟩, ⟨(some 84), (.mv (.tmp 10)), (some (83, true))⟩, ⟨(some 85), (.cmp .neq (.tmp 84) (.const (.int .i64 1))), (some (83, true))⟩, ⟨(some 86), (.pick (.tmp 83) (.tmp 85) (.const (.bool false))), (some (80, false))⟩, ⟨(some 87), (.pick (.tmp 80) (.const (.bool true)) (.tmp 86)), none⟩, ⟨(some 77), (.mv (.tmp 87)), none⟩])
    (.cond (.tmp 77)
    (.reg [⟨(some 13), (.mv (.const (.int .i64 0))), none⟩])
    (.seq (.reg [⟨(some 89), (.mv (.tmp 9)), none⟩, ⟨(some 90), (.cmp .eql (.tmp 89) (.const (.int .i64 3))), none⟩, ⟨(some 88), (.mv (.tmp 90)), none⟩])
    (.cond (.tmp 88)
    (.reg [⟨(some 13), (.mv (.const (.int .i64 4))), none⟩]) .skip)))))
    (.seq (.seq
    (.reg [⟨(some 91), (.mv (.tmp 8)), none⟩, ⟨(some 92), (.call 55 [(.tmp 91)]), none⟩, ⟨(some 93), (.nt (.tmp 92)), none⟩, ⟨(some 94), (.mv (.tmp 93)), none⟩, ⟨(some 95), (.mv (.tmp 8)), (some (94, false))⟩, ⟨(some 96), (.call 56 [(.tmp 95)]), (some (94, false))⟩, ⟨(some 97), (.mv (.tmp 13)), (some (94, false))⟩, ⟨(some 98), (.cmp .neq (.tmp 96) (.tmp 97)), (some (94, false))⟩, ⟨(some 99), (.pick (.tmp 94) (.const (.bool true)) (.tmp 98)), none⟩])
    (.cond (.tmp 99)
    (.seq (.reg [⟨(some 6), (.mv (.const (.bool false))), none⟩]) .ret) .skip))
    (.seq (.seq
    (.reg [⟨(some 100), (.mv (.tmp 13)), none⟩, ⟨(some 101), (.cmp .eql (.tmp 100) (.const (.int .i64 0))), none⟩])
    (.cond (.tmp 101)
    (.seq (.reg [⟨(some 102), (.mv (.tmp 7)), none⟩, ⟨(some 103), (.call 27 [(.tmp 102), (.const (.int .i64 1))]), none⟩, ⟨(some 104), (.pcall 53 [(.const (.int .i64 4)), (.const (.int .i64 0))]), none⟩, ⟨(some 105), (.cmp .eql (.tmp 103) (.tmp 104)), none⟩, ⟨(some 6), (.mv (.tmp 105)), none⟩]) .ret) .skip))
    (.seq (.reg [⟨(some 106), (.mv (.tmp 7)), none⟩, ⟨(some 107), (.call 27 [(.tmp 106), (.const (.int .i64 1))]), none⟩, ⟨(some 108), (.mv (.tmp 11)), none⟩, ⟨(some 109), (.cmp .eql (.tmp 107) (.tmp 108)), none⟩, ⟨(some 110), (.mv (.tmp 109)), none⟩, ⟨(some 111), (.mv (.tmp 7)), (some (110, true))⟩, ⟨(some 112), (.call 36 [(.tmp 111)]), (some (110, true))⟩, ⟨(some 113), (.cmp .leq (.tmp 112) (.const (.int .i64 2))), (some (110, true))⟩, ⟨(some 114), (.pick (.tmp 110) (.tmp 113) (.const (.bool false))), none⟩, ⟨(some 6), (.mv (.tmp 114)), none⟩]) .ret))))))))))))))))))⟩ := by kernel_rfl

/-- allotment/allotmentlaw18.AdoptPlays -/
theorem tr13 : trF Try.prog pures Try.f13 = some
  ⟨91, [(.t 6)],
    (.seq (.reg [⟨(some 3), (.box 25 (.tmp 0)), none⟩, ⟨(some 5), (.box 59 (.tmp 2)), none⟩, ⟨(some 6), (.mv (.const (.bool false))), none⟩])
    (.seq (.seq
    (.reg [⟨(some 12), (.call 50 []), none⟩, ⟨(some 13), (.nt (.tmp 12)), none⟩])
    (.cond (.tmp 13)
    (.seq (.reg [⟨(some 6), (.mv (.const (.bool false))), none⟩]) .ret) .skip))
    (.seq (.seq
    (.reg [⟨(some 14), (.ldn 3 (.tmp 3)), none⟩, ⟨(some 15), (.mv (.tmp 1)), none⟩, ⟨(some 16), (.call 37 [(.tmp 14), (.tmp 15)]), none⟩, ⟨(some 17), (.nt (.tmp 16)), none⟩])
    (.cond (.tmp 17)
    (.seq (.reg [⟨(some 6), (.mv (.const (.bool true))), none⟩]) .ret) .skip))
    (.seq (.reg [⟨(some 18), (.mv (.tmp 1)), none⟩, ⟨(some 19), (.call 22 [(.tmp 18)]), none⟩, ⟨(some 20), (.mv (.tmp 1)), none⟩, ⟨(some 21), (.call 44 [(.tmp 20)]), none⟩, ⟨(some 7), (.mv (.tmp 19)), none⟩, ⟨(some 8), (.mv (.tmp 21)), none⟩])
    (.seq (.draw (.take ⟨(some 22), (.ldn 3 (.tmp 3)), none⟩ (.take ⟨(some 23), (.iadA 2 1 (.tmp 5) (.const (.int .i64 0))), none⟩ (.take ⟨(some 24), (.ld1 (.tmp 23)), none⟩ (.take ⟨(some 25), (.iadA 2 1 (.tmp 5) (.const (.int .i64 1))), none⟩ (.take ⟨(some 26), (.ld1 (.tmp 25)), none⟩ (.take ⟨(some 28), (.ldn 3 (.tmp 3)), none⟩ (.take ⟨(some 29), (.iadA 2 1 (.tmp 5) (.const (.int .i64 0))), none⟩ (.take ⟨(some 30), (.ld1 (.tmp 29)), none⟩ (.take ⟨(some 31), (.iadA 2 1 (.tmp 5) (.const (.int .i64 1))), none⟩ (.take ⟨(some 32), (.ld1 (.tmp 31)), none⟩ (.alt false ⟨(some 27), (.call 51 [(.tmp 22), (.tmp 24), (.tmp 26)]), none⟩ (.alt false ⟨(some 33), (.call 57 [(.tmp 28), (.tmp 30), (.tmp 32)]), none⟩ (.take ⟨(some 9), (.mv (.tmp 27)), none⟩ (.take ⟨(some 10), (.mv (.tmp 33)), none⟩ .done)) .stop) .stop))))))))))))
    (.seq (.seq
    (.reg [⟨(some 34), (.mv (.tmp 7)), none⟩, ⟨(some 35), (.pnil false (.tmp 34)), none⟩, ⟨(some 36), (.mv (.tmp 35)), none⟩, ⟨(some 37), (.mv (.tmp 9)), (some (36, false))⟩, ⟨(some 38), (.pnil false (.tmp 37)), (some (36, false))⟩, ⟨(some 39), (.pick (.tmp 36) (.const (.bool true)) (.tmp 38)), none⟩])
    (.cond (.tmp 39)
    (.seq (.reg [⟨(some 6), (.mv (.const (.bool false))), none⟩]) .ret) .skip))
    (.seq (.seq
    (.reg [⟨(some 11), (.mv (.const (.int .i64 0))), none⟩])
    (.block 0
    (.loop (.seq
    (.seq (.reg [⟨(some 40), (.mv (.tmp 11)), none⟩, ⟨(some 41), (.fad 0 (.tmp 3)), none⟩, ⟨(some 42), (.ld1 (.tmp 41)), none⟩, ⟨(some 43), (.ar .mul (.const (.int .i64 60)) (.tmp 42)), none⟩, ⟨(some 44), (.fad 2 (.tmp 3)), none⟩, ⟨(some 45), (.ld1 (.tmp 44)), none⟩, ⟨(some 46), (.ar .add (.tmp 43) (.tmp 45)), none⟩, ⟨(some 47), (.ar .add (.tmp 46) (.const (.int .i64 20))), none⟩, ⟨(some 48), (.cmp .lss (.tmp 40) (.tmp 47)), none⟩])
    (.cond (.tmp 48) .skip (.exit 0)))
    (.seq (.block 1
    (.seq (.seq
    (.draw (.take ⟨(some 51), (.mv (.tmp 9)), none⟩ (.take ⟨(some 53), (.mv (.tmp 10)), none⟩ (.take ⟨(some 54), (.nilck (.tmp 53)), none⟩ (.take ⟨(some 55), (.fad 5 (.tmp 54)), none⟩ (.take ⟨(some 56), (.ld1 (.tmp 55)), none⟩ (.alt false ⟨(some 52), (.call 56 [(.tmp 51)]), none⟩ (.take ⟨(some 57), (.cmp .neq (.tmp 52) (.tmp 56)), none⟩ .done) .stop)))))))
    (.cond (.tmp 57)
    (.seq (.reg [⟨(some 6), (.mv (.const (.bool false))), none⟩]) .ret) .skip))
    (.seq (.seq
    (.draw (.take ⟨(some 58), (.mv (.tmp 9)), none⟩ (.take ⟨(some 60), (.mv (.tmp 10)), none⟩ (.take ⟨(some 61), (.nilck (.tmp 60)), none⟩ (.take ⟨(some 62), (.fad 6 (.tmp 61)), none⟩ (.take ⟨(some 63), (.ld1 (.tmp 62)), none⟩ (.alt false ⟨(some 59), (.call 55 [(.tmp 58)]), none⟩ (.take ⟨(some 64), (.beq true (.tmp 59) (.tmp 63)), none⟩ .done) .stop)))))))
    (.cond (.tmp 64)
    (.seq (.reg [⟨(some 6), (.mv (.const (.bool false))), none⟩]) .ret) .skip))
    (.seq (.seq
    (.reg [⟨(some 65), (.mv (.tmp 9)), none⟩, ⟨(some 66), (.call 55 [(.tmp 65)]), none⟩])
    (.cond (.tmp 66) (.exit 0) .skip))
    (.seq (.reg [⟨(some 67), (.mv (.tmp 9)), none⟩, ⟨(some 68), (.mv (.tmp 7)), none⟩, ⟨(some 69), (.call 54 [(.tmp 67), (.tmp 68)]), none⟩])
    (.seq (.reg [⟨(some 70), (.mv (.tmp 10)), none⟩, ⟨(some 71), (.mv (.tmp 8)), none⟩, ⟨(some 72), (.call 58 [(.tmp 70), (.tmp 71)]), none⟩])
    (.seq (.reg [⟨(some 73), (.mv (.tmp 7)), none⟩, ⟨(some 74), (.mv (.tmp 8)), none⟩, ⟨(some 75), (.call 47 [(.tmp 73), (.tmp 74)]), none⟩, ⟨(some 76), (.nt (.tmp 75)), none⟩])
    (.cond (.tmp 76)
    (.seq (.reg [⟨(some 6), (.mv (.const (.bool false))), none⟩]) .ret) .skip))))))))
    (.reg [⟨(some 49), (.mv (.tmp 11)), none⟩, ⟨(some 50), (.ar .add (.tmp 49) (.const (.int .i64 1))), none⟩, ⟨(some 11), (.mv (.tmp 50)), none⟩]))))))
    (.seq (.reg [⟨(some 77), (.mv (.tmp 9)), none⟩, ⟨(some 78), (.mv (.tmp 7)), none⟩, ⟨(some 79), (.call 54 [(.tmp 77), (.tmp 78)]), none⟩])
    (.seq (.draw (.take ⟨(some 80), (.mv (.tmp 9)), none⟩ (.alt false ⟨(some 81), (.call 55 [(.tmp 80)]), none⟩ (.take ⟨(some 82), (.mv (.tmp 81)), none⟩ (.take ⟨(some 83), (.mv (.tmp 7)), (some (82, true))⟩ (.take ⟨(some 85), (.mv (.tmp 8)), (some (82, true))⟩ (.take ⟨(some 86), (.nilck (.tmp 85)), (some (82, true))⟩ (.take ⟨(some 87), (.fad 1 (.tmp 86)), (some (82, true))⟩ (.take ⟨(some 88), (.ld1 (.tmp 87)), (some (82, true))⟩ (.alt false ⟨(some 84), (.call 36 [(.tmp 83)]), (some (82, true))⟩ (.take ⟨(some 89), (.cmp .eql (.tmp 84) (.tmp 88)), (some (82, true))⟩ (.take ⟨(some 90), (.pick (.tmp 82) (.tmp 89) (.const (.bool false))), none⟩ (.take ⟨(some 6), (.mv (.tmp 90)), none⟩ .done))) .stop))))))) .stop))) .ret)))))))))⟩ := by kernel_rfl

/-- allotment/allotmentlaw13.SeekOwn -/
theorem tr14 : trF Try.prog pures Try.f14 = some
  ⟨156, [(.t 6)],
    (.seq (.reg [⟨(some 6), (.mv (.const (.bool false))), none⟩])
    (.seq (.seq
    (.reg [⟨(some 20), (.call 59 []), none⟩, ⟨(some 21), (.nt (.tmp 20)), none⟩])
    (.cond (.tmp 21)
    (.seq (.reg [⟨(some 6), (.mv (.const (.bool false))), none⟩]) .ret) .skip))
    (.seq (.reg [⟨(some 22), (.mv (.tmp 0)), none⟩, ⟨(some 23), (.len (.tmp 22)), none⟩, ⟨(some 24), (.mn (.tmp 23) (.const (.int .i64 8))), none⟩, ⟨(some 7), (.mv (.tmp 24)), none⟩])
    (.seq (.reg [⟨(some 25), (.mv (.tmp 1)), none⟩, ⟨(some 26), (.cv .i64 (.tmp 25)), none⟩, ⟨(some 27), (.dv .rem (.tmp 26) (.const (.int .i64 4))), none⟩, ⟨(some 8), (.mv (.tmp 27)), none⟩])
    (.seq (.reg [⟨(some 28), (.mv (.tmp 7)), none⟩, ⟨(some 29), (.bld #[(.int .i64 0), (.int .i64 0), (.int .i64 0)] [(0, (1, (.const (.int .i64 4)))), (1, (1, (.const (.int .i64 1)))), (2, (1, (.tmp 28)))]), none⟩, ⟨(some 9), (.alc 25 (.agg #[(.int .i64 0), (.int .i64 0), (.int .i64 0)])), none⟩, ⟨none, (.stn 3 (.tmp 9) (.tmp 29)), none⟩])
    (.seq (.reg [⟨(some 30), (.ldn 3 (.tmp 9)), none⟩, ⟨(some 31), (.call 60 [(.tmp 30)]), none⟩, ⟨(some 10), (.mv (.tmp 31)), none⟩])
    (.seq (.reg [⟨(some 11), (.mv (.const (.int .i64 (-1)))), none⟩])
    (.seq (.seq
    (.reg [⟨(some 32), (.mv (.tmp 7)), none⟩, ⟨(some 33), (.ar .sub (.tmp 32) (.const (.int .i64 1))), none⟩, ⟨(some 12), (.mv (.tmp 33)), none⟩])
    (.block 0
    (.loop (.seq
    (.seq (.reg [⟨(some 34), (.mv (.tmp 12)), none⟩, ⟨(some 35), (.cmp .geq (.tmp 34) (.const (.int .i64 0))), none⟩])
    (.cond (.tmp 35) .skip (.exit 0)))
    (.seq (.block 1
    (.seq (.reg [⟨(some 38), (.mv (.tmp 0)), none⟩, ⟨(some 39), (.mv (.tmp 12)), none⟩, ⟨(some 40), (.iad 1 (.tmp 38) (.tmp 39)), none⟩, ⟨(some 41), (.ld1 (.tmp 40)), none⟩, ⟨(some 42), (.cv .i64 (.tmp 41)), none⟩, ⟨(some 43), (.dv .rem (.tmp 42) (.const (.int .i64 5))), none⟩, ⟨(some 13), (.mv (.tmp 43)), none⟩])
    (.seq (.seq
    (.reg [⟨(some 44), (.mv (.tmp 13)), none⟩, ⟨(some 45), (.cmp .lss (.tmp 44) (.const (.int .i64 4))), none⟩])
    (.cond (.tmp 45)
    (.draw (.take ⟨(some 46), (.mv (.tmp 10)), none⟩ (.take ⟨(some 47), (.ldn 3 (.tmp 9)), none⟩ (.take ⟨(some 48), (.mv (.tmp 12)), none⟩ (.take ⟨(some 50), (.mv (.tmp 12)), none⟩ (.take ⟨(some 51), (.dv .rem (.tmp 50) (.const (.int .i64 4))), none⟩ (.take ⟨(some 52), (.mv (.tmp 0)), none⟩ (.take ⟨(some 53), (.mv (.tmp 12)), none⟩ (.take ⟨(some 54), (.iad 1 (.tmp 52) (.tmp 53)), none⟩ (.take ⟨(some 55), (.ld1 (.tmp 54)), none⟩ (.take ⟨(some 56), (.sh .shr (.tmp 55) (.const (.int .u64 6))), none⟩ (.take ⟨(some 57), (.cv .i64 (.tmp 56)), none⟩ (.take ⟨(some 58), (.dv .rem (.tmp 57) (.const (.int .i64 2))), none⟩ (.take ⟨(some 59), (.mv (.tmp 13)), none⟩ (.take ⟨(some 60), (.bld #[(.int .i64 0), (.int .i64 0), (.int .i64 0)] [(0, (1, (.tmp 51))), (1, (1, (.tmp 58))), (2, (1, (.tmp 59)))]), none⟩ (.alt false ⟨(some 49), (.pcall 34 [(.tmp 47), (.const (.int .i64 0)), (.tmp 48)]), none⟩ (.alt false ⟨(some 61), (.pcall 35 [(.tmp 60)]), none⟩ (.take ⟨(some 62), (.iad 1 (.tmp 46) (.tmp 49)), none⟩ (.alt true ⟨none, (.st1 (.tmp 62) (.tmp 61)), none⟩ .done .stop)) .stop) .stop)))))))))))))))) .skip))
    (.seq (.reg [⟨(some 63), (.mv (.tmp 13)), none⟩, ⟨(some 64), (.mv (.tmp 8)), none⟩, ⟨(some 65), (.cmp .eql (.tmp 63) (.tmp 64)), none⟩])
    (.cond (.tmp 65)
    (.reg [⟨(some 66), (.mv (.tmp 12)), none⟩, ⟨(some 11), (.mv (.tmp 66)), none⟩]) .skip)))))
    (.reg [⟨(some 36), (.mv (.tmp 12)), none⟩, ⟨(some 37), (.ar .sub (.tmp 36) (.const (.int .i64 1))), none⟩, ⟨(some 12), (.mv (.tmp 37)), none⟩]))))))
    (.seq (.reg [⟨(some 67), (.mv (.tmp 10)), none⟩, ⟨(some 68), (.call 22 [(.tmp 67)]), none⟩, ⟨(some 14), (.mv (.tmp 68)), none⟩])
    (.seq (.reg [⟨(some 69), (.ldn 3 (.tmp 9)), none⟩, ⟨(some 70), (.mv (.tmp 8)), none⟩, ⟨(some 71), (.mv (.tmp 2)), none⟩, ⟨(some 72), (.cv .i64 (.tmp 71)), none⟩, ⟨(some 73), (.dv .rem (.tmp 72) (.const (.int .i64 4))), none⟩, ⟨(some 74), (.call 61 [(.tmp 69), (.const (.int .i64 0)), (.tmp 70), (.tmp 73)]), none⟩, ⟨(some 15), (.mv (.tmp 74)), none⟩])
    (.seq (.seq
    (.reg [⟨(some 75), (.mv (.tmp 14)), none⟩, ⟨(some 76), (.pnil false (.tmp 75)), none⟩, ⟨(some 77), (.mv (.tmp 76)), none⟩, ⟨(some 78), (.mv (.tmp 15)), (some (77, false))⟩, ⟨(some 79), (.pnil false (.tmp 78)), (some (77, false))⟩, ⟨(some 80), (.pick (.tmp 77) (.const (.bool true)) (.tmp 79)), none⟩])
    (.cond (.tmp 80)
    (.seq (.reg [⟨(some 6), (.mv (.const (.bool false))), none⟩]) .ret) .skip))
    (.seq (.seq
    (.reg [⟨(some 16), (.mv (.const (.int .i64 0))), none⟩])
    (.block 2
    (.loop (.seq
    (.seq (.reg [⟨(some 81), (.mv (.tmp 16)), none⟩, ⟨(some 82), (.cmp .lss (.tmp 81) (.const (.int .i64 500))), none⟩])
    (.cond (.tmp 82) .skip (.exit 2)))
    (.seq (.block 3
    (.reg [⟨(some 85), (.mv (.tmp 15)), none⟩, ⟨(some 86), (.mv (.tmp 14)), none⟩, ⟨(some 87), (.call 62 [(.tmp 85), (.tmp 86)]), none⟩]))
    (.reg [⟨(some 83), (.mv (.tmp 16)), none⟩, ⟨(some 84), (.ar .add (.tmp 83) (.const (.int .i64 1))), none⟩, ⟨(some 16), (.mv (.tmp 84)), none⟩]))))))
    (.seq (.reg [⟨(some 89), (.mv (.tmp 15)), none⟩, ⟨(some 90), (.call 63 [(.tmp 89)]), none⟩, ⟨(some 88), (.mv (.tmp 90)), none⟩, ⟨(some 91), (.ext 0 (.tmp 88)), none⟩, ⟨(some 92), (.ext 1 (.tmp 88)), none⟩, ⟨(some 93), (.ext 2 (.tmp 88)), none⟩, ⟨(some 17), (.mv (.tmp 91)), none⟩, ⟨(some 18), (.mv (.tmp 92)), none⟩, ⟨(some 19), (.mv (.tmp 93)), none⟩])
    (.seq (.seq
    (.reg [⟨(some 94), (.mv (.tmp 15)), none⟩, ⟨(some 95), (.call 64 [(.tmp 94)]), none⟩, ⟨(some 96), (.nt (.tmp 95)), none⟩, ⟨(some 97), (.mv (.tmp 96)), none⟩, ⟨(some 98), (.mv (.tmp 19)), (some (97, false))⟩, ⟨(some 99), (.nt (.tmp 98)), (some (97, false))⟩, ⟨(some 100), (.pick (.tmp 97) (.const (.bool true)) (.tmp 99)), none⟩])
    (.cond (.tmp 100)
    (.seq (.reg [⟨(some 6), (.mv (.const (.bool false))), none⟩]) .ret) .skip))
    (.seq (.seq
    (.reg [⟨(some 101), (.mv (.tmp 11)), none⟩, ⟨(some 102), (.cmp .lss (.tmp 101) (.const (.int .i64 0))), none⟩])
    (.cond (.tmp 102)
    (.seq (.draw (.take ⟨(some 103), (.mv (.tmp 17)), none⟩ (.take ⟨(some 104), (.mv (.tmp 2)), none⟩ (.take ⟨(some 105), (.cv .i64 (.tmp 104)), none⟩ (.take ⟨(some 106), (.dv .rem (.tmp 105) (.const (.int .i64 4))), none⟩ (.take ⟨(some 107), (.cmp .eql (.tmp 103) (.tmp 106)), none⟩ (.take ⟨(some 108), (.mv (.tmp 107)), none⟩ (.take ⟨(some 109), (.mv (.tmp 18)), (some (108, true))⟩ (.take ⟨(some 110), (.cmp .eql (.tmp 109) (.const (.int .i64 0))), (some (108, true))⟩ (.take ⟨(some 111), (.pick (.tmp 108) (.tmp 110) (.const (.bool false))), none⟩ (.take ⟨(some 112), (.mv (.tmp 111)), none⟩ (.take ⟨(some 113), (.mv (.tmp 14)), (some (112, true))⟩ (.take ⟨(some 115), (.mv (.tmp 7)), (some (112, true))⟩ (.take ⟨(some 116), (.fad 0 (.tmp 9)), (some (112, true))⟩ (.take ⟨(some 117), (.ld1 (.tmp 116)), (some (112, true))⟩ (.take ⟨(some 118), (.ar .add (.tmp 115) (.tmp 117)), (some (112, true))⟩ (.take ⟨(some 119), (.ar .add (.tmp 118) (.const (.int .i64 2))), (some (112, true))⟩ (.take ⟨(some 120), (.ar .add (.tmp 119) (.const (.int .i64 16))), (some (112, true))⟩ (.take ⟨(some 121), (.mv (.tmp 8)), (some (112, true))⟩ (.alt false ⟨(some 114), (.call 36 [(.tmp 113)]), (some (112, true))⟩ (.alt false ⟨(some 122), (.pcall 19 [(.tmp 121)]), (some (112, true))⟩ (.take ⟨(some 123), (.ar .add (.tmp 120) (.tmp 122)), (some (112, true))⟩ (.take ⟨(some 124), (.cmp .eql (.tmp 114) (.tmp 123)), (some (112, true))⟩ (.take ⟨(some 125), (.pick (.tmp 112) (.tmp 124) (.const (.bool false))), none⟩ (.take ⟨(some 6), (.mv (.tmp 125)), none⟩ .done)))) .stop) .stop)))))))))))))))))))) .ret) .skip))
    (.seq (.reg [⟨(some 126), (.mv (.tmp 17)), none⟩, ⟨(some 127), (.mv (.tmp 11)), none⟩, ⟨(some 128), (.dv .rem (.tmp 127) (.const (.int .i64 4))), none⟩, ⟨(some 129), (.cmp .eql (.tmp 126) (.tmp 128)), none⟩, ⟨(some 130), (.mv (.tmp 129)), none⟩, ⟨(some 131), (.mv (.tmp 18)), (some (130, true))⟩, ⟨(some 132), (.mv (.tmp 0)), (some (130, true))⟩, ⟨(some 133), (.mv (.tmp 11)), (some (130, true))⟩, ⟨(some 134), (.iad 1 (.tmp 132) (.tmp 133)), (some (130, true))⟩, ⟨(some 135), (.ld1 (.tmp 134)), (some (130, true))⟩, ⟨(some 136), (.sh .shr (.tmp 135) (.const (.int .u64 6))), (some (130, true))⟩, ⟨(some 137), (.cv .i64 (.tmp 136)), (some (130, true))⟩, ⟨(some 138), (.dv .rem (.tmp 137) (.const (.int .i64 2))), (some (130, true))⟩, ⟨(some 139), (.cmp .eql (.tmp 131) (.tmp 138)), (some (130, true))⟩, ⟨(some 140), (.pick (.tmp 130) (.tmp 139) (.const (.bool false))), none⟩, ⟨(some 141), (.mv (.tmp 140)), none⟩, ⟨(some 142), (.mv (.tmp 14)), (some (141, true))⟩, ⟨(some 143), (.call 36 [(.tmp 142)]), (some (141, true))⟩, ⟨(some 144), (.mv (.tmp 11)), (some (141, true))⟩, ⟨(some 145), (.ar .add (.tmp 144) (.const (.int .i64 2))), (some (141, true))⟩, ⟨(some 146), (.cmp .eql (.tmp 143) (.tmp 145)), (some (141, true))⟩, ⟨(some 147), (.pick (.tmp 141) (.tmp 146) (.const (.bool false))), none⟩, ⟨(some 148), (.mv (.tmp 147)), none⟩, ⟨(some 149), (.mv (.tmp 14)), (some (148, true))⟩, ⟨(some 150), (.ldn 3 (.tmp 9)), (some (148, true))⟩, ⟨(some 151), (.mv (.tmp 11)), (some (148, true))⟩, ⟨(some 152), (.pcall 34 [(.tmp 150), (.const (.int .i64 0)), (.tmp 151)]), (some (148, true))⟩, ⟨(some 153), (.call 27 [(.tmp 149), (.tmp 152)]), (some (148, true))⟩, ⟨(some 154), (.cmp .eql (.tmp 153) (.const (.int .u64 0))), (some (148, true))⟩, ⟨(some 155), (.pick (.tmp 148) (.tmp 154) (.const (.bool false))), none⟩, ⟨(some 6), (.mv (.tmp 155)), none⟩]) .ret))))))))))))))))⟩ := by kernel_rfl

/-- allotment/allotmentlaw14.awake -/
theorem tr15 : trF Try.prog pures Try.f15 = some
  ⟨59, [(.t 0)],
    (.seq (.reg [⟨(some 0), (.mv (.const (.bool false))), none⟩])
    (.seq (.reg [⟨(some 8), (.bld #[(.int .i64 0), (.int .i64 0), (.int .i64 0)] [(0, (1, (.const (.int .i64 3)))), (1, (1, (.const (.int .i64 1))))]), none⟩, ⟨(some 1), (.alc 25 (.agg #[(.int .i64 0), (.int .i64 0), (.int .i64 0)])), none⟩, ⟨none, (.stn 3 (.tmp 1) (.tmp 8)), none⟩])
    (.seq (.reg [⟨(some 9), (.ldn 3 (.tmp 1)), none⟩, ⟨(some 10), (.pcall 16 [(.tmp 9)]), none⟩, ⟨(some 11), (.mks 29 8 (.int .u64 0) (.tmp 10) (.tmp 10)), none⟩, ⟨(some 2), (.mv (.tmp 11)), none⟩])
    (.seq (.reg [⟨(some 12), (.mv (.tmp 2)), none⟩, ⟨(some 13), (.bld #[(.int .i64 0), (.int .i64 0), (.int .i64 0)] [(0, (1, (.const (.int .i64 3)))), (1, (1, (.const (.int .i64 1))))]), none⟩, ⟨(some 14), (.pcall 17 [(.tmp 13)]), none⟩, ⟨(some 15), (.iad 1 (.tmp 12) (.const (.int .i64 1))), none⟩, ⟨none, (.st1 (.tmp 15) (.tmp 14)), none⟩])
    (.seq (.reg [⟨(some 16), (.mv (.tmp 2)), none⟩, ⟨(some 17), (.call 22 [(.tmp 16)]), none⟩, ⟨(some 3), (.mv (.tmp 17)), none⟩])
    (.seq (.reg [⟨(some 18), (.ldn 3 (.tmp 1)), none⟩, ⟨(some 19), (.call 23 [(.tmp 18), (.const (.int .i64 0)), (.const (.int .i64 2))]), none⟩, ⟨(some 4), (.mv (.tmp 19)), none⟩])
    (.seq (.seq
    (.reg [⟨(some 20), (.mv (.tmp 3)), none⟩, ⟨(some 21), (.pnil false (.tmp 20)), none⟩, ⟨(some 22), (.mv (.tmp 21)), none⟩, ⟨(some 23), (.mv (.tmp 4)), (some (22, false))⟩, ⟨(some 24), (.pnil false (.tmp 23)), (some (22, false))⟩, ⟨(some 25), (.pick (.tmp 22) (.const (.bool true)) (.tmp 24)), none⟩])
    (.cond (.tmp 25)
    (.seq (.reg [⟨(some 0), (.mv (.const (.bool false))), none⟩]) .ret) .skip))
    (.seq (.seq
    (.reg [⟨(some 5), (.mv (.const (.int .i64 0))), none⟩])
    (.block 0
    (.loop (.seq
    (.seq (.reg [⟨(some 26), (.mv (.tmp 5)), none⟩, ⟨(some 27), (.cmp .lss (.tmp 26) (.const (.int .i64 6))), none⟩])
    (.cond (.tmp 27) .skip (.exit 0)))
    (.seq (.block 1
    (.reg [⟨(some 30), (.mv (.tmp 4)), none⟩, ⟨(some 31), (.mv (.tmp 3)), none⟩, ⟨(some 32), (.call 24 [(.tmp 30), (.tmp 31)]), none⟩]))
    (.reg [⟨(some 28), (.mv (.tmp 5)), none⟩, ⟨(some 29), (.ar .add (.tmp 28) (.const (.int .i64 1))), none⟩, ⟨(some 5), (.mv (.tmp 29)), none⟩]))))))
    (.seq (.reg [⟨(some 34), (.mv (.tmp 4)), none⟩, ⟨(some 35), (.call 25 [(.tmp 34)]), none⟩, ⟨(some 33), (.mv (.tmp 35)), none⟩, ⟨(some 36), (.ext 0 (.tmp 33)), none⟩, ⟨(some 37), (.ext 1 (.tmp 33)), none⟩, ⟨(some 6), (.mv (.tmp 36)), none⟩, ⟨(some 7), (.mv (.tmp 37)), none⟩])
    (.seq (.reg [⟨(some 38), (.mv (.tmp 4)), none⟩, ⟨(some 39), (.call 26 [(.tmp 38)]), none⟩, ⟨(some 40), (.mv (.tmp 39)), none⟩, ⟨(some 41), (.mv (.tmp 7)), (some (40, true))⟩, ⟨(some 42), (.pick (.tmp 40) (.tmp 41) (.const (.bool false))), none⟩, ⟨(some 43), (.mv (.tmp 42)), none⟩, ⟨(some 44), (.mv (.tmp 6)), (some (43, true))⟩, ⟨(some 45), (.cmp .eql (.tmp 44) (.const (.int .i64 1))), (some (43, true))⟩, ⟨(some 46), (.pick (.tmp 43) (.tmp 45) (.const (.bool false))), none⟩, ⟨(some 47), (.mv (.tmp 46)), none⟩, ⟨(some 48), (.mv (.tmp 3)), (some (47, true))⟩, ⟨(some 49), (.call 36 [(.tmp 48)]), (some (47, true))⟩, ⟨(some 50), (.cmp .eql (.tmp 49) (.const (.int .i64 6))), (some (47, true))⟩, ⟨(some 51), (.pick (.tmp 47) (.tmp 50) (.const (.bool false))), none⟩, ⟨(some 52), (.mv (.tmp 51)), none⟩, ⟨(some 53), (.mv (.tmp 3)), (some (52, true))⟩, ⟨(some 54), (.call 27 [(.tmp 53), (.const (.int .i64 3))]), (some (52, true))⟩, ⟨(some 55), (.bld #[(.int .i64 0), (.int .i64 0), (.int .i64 0)] [(0, (1, (.const (.int .i64 4)))), (1, (1, (.const (.int .i64 1))))]), (some (52, true))⟩, ⟨(some 56), (.pcall 17 [(.tmp 55)]), (some (52, true))⟩, ⟨(some 57), (.cmp .eql (.tmp 54) (.tmp 56)), (some (52, true))⟩, ⟨(some 58), (.pick (.tmp 52) (.tmp 57) (.const (.bool false))), none⟩, ⟨(some 0), (.mv (.tmp 58)), none⟩]) .ret))))))))))⟩ := by kernel_rfl

/-- allotment/allotmentlaw2.Fill -/
theorem tr22 : trF Try.prog pures Try.f22 = some
  ⟨26, [(.t 2)],
    (.seq (.reg [⟨(some 2), (.mv (.const (.pointer none))), none⟩])
    (.seq (.reg [⟨(some 5), (.mv (.tmp 0)), none⟩, ⟨(some 6), (.len (.tmp 5)), none⟩, ⟨(some 7), (.call 67 [(.tmp 6)]), none⟩, ⟨(some 3), (.mv (.tmp 7)), none⟩])
    (.seq (.seq
    (.reg [⟨(some 4), (.mv (.const (.int .i64 0))), none⟩])
    (.block 0
    (.loop (.seq
    (.seq (.reg [⟨(some 8), (.mv (.tmp 4)), none⟩, ⟨(some 9), (.mv (.tmp 0)), none⟩, ⟨(some 10), (.len (.tmp 9)), none⟩, ⟨(some 11), (.cmp .lss (.tmp 8) (.tmp 10)), none⟩, ⟨(some 12), (.mv (.tmp 11)), none⟩, ⟨(some 13), (.mv (.tmp 3)), (some (12, true))⟩, ⟨(some 14), (.pnil true (.tmp 13)), (some (12, true))⟩, ⟨(some 15), (.pick (.tmp 12) (.tmp 14) (.const (.bool false))), none⟩])
    (.cond (.tmp 15) .skip (.exit 0)))
    (.seq (.block 1
    (.reg [⟨(some 18), (.mv (.tmp 3)), none⟩, ⟨(some 19), (.mv (.tmp 4)), none⟩, ⟨(some 20), (.mv (.tmp 0)), none⟩, ⟨(some 21), (.mv (.tmp 4)), none⟩, ⟨(some 22), (.iad 1 (.tmp 20) (.tmp 21)), none⟩, ⟨(some 23), (.ld1 (.tmp 22)), none⟩, ⟨(some 24), (.call 52 [(.tmp 18), (.tmp 19), (.tmp 23)]), none⟩]))
    (.reg [⟨(some 16), (.mv (.tmp 4)), none⟩, ⟨(some 17), (.ar .add (.tmp 16) (.const (.int .i64 1))), none⟩, ⟨(some 4), (.mv (.tmp 17)), none⟩]))))))
    (.seq (.reg [⟨(some 25), (.mv (.tmp 3)), none⟩, ⟨(some 2), (.mv (.tmp 25)), none⟩]) .ret))))⟩ := by kernel_rfl

/-- allotment/allotmentlaw16.awake -/
theorem tr28 : trF Try.prog pures Try.f28 = some
  ⟨69, [(.t 0)],
    (.seq (.reg [⟨(some 0), (.mv (.const (.bool false))), none⟩])
    (.seq (.reg [⟨(some 7), (.bld #[(.int .i64 0), (.int .i64 0), (.int .i64 0)] [(0, (1, (.const (.int .i64 2)))), (1, (1, (.const (.int .i64 1))))]), none⟩, ⟨(some 1), (.alc 25 (.agg #[(.int .i64 0), (.int .i64 0), (.int .i64 0)])), none⟩, ⟨none, (.stn 3 (.tmp 1) (.tmp 7)), none⟩])
    (.seq (.reg [⟨(some 8), (.ldn 3 (.tmp 1)), none⟩, ⟨(some 9), (.pcall 16 [(.tmp 8)]), none⟩, ⟨(some 10), (.mks 29 8 (.int .u64 0) (.tmp 9) (.tmp 9)), none⟩, ⟨(some 2), (.mv (.tmp 10)), none⟩])
    (.seq (.reg [⟨(some 11), (.mv (.tmp 2)), none⟩, ⟨(some 12), (.mv (.tmp 2)), none⟩, ⟨(some 13), (.bld #[(.int .i64 0), (.int .i64 0), (.int .i64 0)] [(0, (1, (.const (.int .i64 3)))), (1, (1, (.const (.int .i64 2))))]), none⟩, ⟨(some 14), (.pcall 17 [(.tmp 13)]), none⟩, ⟨(some 15), (.bld #[(.int .i64 0), (.int .i64 0), (.int .i64 0)] [(0, (1, (.const (.int .i64 4))))]), none⟩, ⟨(some 16), (.pcall 17 [(.tmp 15)]), none⟩, ⟨(some 17), (.iad 1 (.tmp 11) (.const (.int .i64 1))), none⟩, ⟨none, (.st1 (.tmp 17) (.tmp 14)), none⟩, ⟨(some 18), (.iad 1 (.tmp 12) (.const (.int .i64 2))), none⟩, ⟨none, (.st1 (.tmp 18) (.tmp 16)), none⟩])
    (.seq (.reg [⟨(some 19), (.mv (.tmp 2)), none⟩, ⟨(some 20), (.call 22 [(.tmp 19)]), none⟩, ⟨(some 3), (.mv (.tmp 20)), none⟩])
    (.seq (.reg [⟨(some 21), (.ldn 3 (.tmp 1)), none⟩, ⟨(some 22), (.call 30 [(.tmp 21), (.const (.int .i64 0)), (.const (.int .i64 0))]), none⟩, ⟨(some 4), (.mv (.tmp 22)), none⟩])
    (.seq (.seq
    (.reg [⟨(some 23), (.mv (.tmp 3)), none⟩, ⟨(some 24), (.pnil false (.tmp 23)), none⟩, ⟨(some 25), (.mv (.tmp 24)), none⟩, ⟨(some 26), (.mv (.tmp 4)), (some (25, false))⟩, ⟨(some 27), (.pnil false (.tmp 26)), (some (25, false))⟩, ⟨(some 28), (.pick (.tmp 25) (.const (.bool true)) (.tmp 27)), none⟩])
    (.cond (.tmp 28)
    (.seq (.reg [⟨(some 0), (.mv (.const (.bool false))), none⟩]) .ret) .skip))
    (.seq (.reg [⟨(some 29), (.mv (.tmp 4)), none⟩, ⟨(some 30), (.mv (.tmp 3)), none⟩, ⟨(some 31), (.call 31 [(.tmp 29), (.tmp 30)]), none⟩])
    (.seq (.reg [⟨(some 32), (.mv (.tmp 4)), none⟩, ⟨(some 33), (.call 33 [(.tmp 32)]), none⟩, ⟨(some 5), (.mv (.tmp 33)), none⟩])
    (.seq (.reg [⟨(some 34), (.mv (.tmp 4)), none⟩, ⟨(some 35), (.mv (.tmp 3)), none⟩, ⟨(some 36), (.call 31 [(.tmp 34), (.tmp 35)]), none⟩])
    (.seq (.reg [⟨(some 37), (.mv (.tmp 4)), none⟩, ⟨(some 38), (.call 33 [(.tmp 37)]), none⟩, ⟨(some 6), (.mv (.tmp 38)), none⟩])
    (.seq (.reg [⟨(some 39), (.mv (.tmp 4)), none⟩, ⟨(some 40), (.mv (.tmp 3)), none⟩, ⟨(some 41), (.call 31 [(.tmp 39), (.tmp 40)]), none⟩])
    (.seq (.reg [⟨(some 42), (.mv (.tmp 4)), none⟩, ⟨(some 43), (.mv (.tmp 3)), none⟩, ⟨(some 44), (.call 31 [(.tmp 42), (.tmp 43)]), none⟩])
    (.seq (.reg [⟨(some 45), (.mv (.tmp 5)), none⟩, ⟨(some 46), (.nt (.tmp 45)), none⟩, ⟨(some 47), (.mv (.tmp 46)), none⟩, ⟨(some 48), (.mv (.tmp 6)), (some (47, true))⟩, ⟨(some 49), (.pick (.tmp 47) (.tmp 48) (.const (.bool false))), none⟩, ⟨(some 50), (.mv (.tmp 49)), none⟩, ⟨(some 51), (.mv (.tmp 4)), (some (50, true))⟩, ⟨(some 52), (.call 32 [(.tmp 51)]), (some (50, true))⟩, ⟨(some 53), (.pick (.tmp 50) (.tmp 52) (.const (.bool false))), none⟩, ⟨(some 54), (.mv (.tmp 53)), none⟩, ⟨(some 55), (.mv (.tmp 3)), (some (54, true))⟩, ⟨(some 56), (.call 36 [(.tmp 55)]), (some (54, true))⟩, ⟨(some 57), (.cmp .eql (.tmp 56) (.const (.int .i64 4))), (some (54, true))⟩, ⟨(some 58), (.pick (.tmp 54) (.tmp 57) (.const (.bool false))), none⟩, ⟨(some 59), (.mv (.tmp 58)), none⟩, ⟨(some 60), (.mv (.tmp 3)), (some (59, true))⟩, ⟨(some 61), (.call 27 [(.tmp 60), (.const (.int .i64 1))]), (some (59, true))⟩, ⟨(some 62), (.cmp .eql (.tmp 61) (.const (.int .u64 0))), (some (59, true))⟩, ⟨(some 63), (.pick (.tmp 59) (.tmp 62) (.const (.bool false))), none⟩, ⟨(some 64), (.mv (.tmp 63)), none⟩, ⟨(some 65), (.mv (.tmp 3)), (some (64, true))⟩, ⟨(some 66), (.call 27 [(.tmp 65), (.const (.int .i64 2))]), (some (64, true))⟩, ⟨(some 67), (.cmp .eql (.tmp 66) (.const (.int .u64 0))), (some (64, true))⟩, ⟨(some 68), (.pick (.tmp 64) (.tmp 67) (.const (.bool false))), none⟩, ⟨(some 0), (.mv (.tmp 68)), none⟩]) .ret))))))))))))))⟩ := by kernel_rfl

/-- allotment/allotmentlaw8.Fair -/
theorem tr37 : trF Try.prog pures Try.f37 = some
  ⟨14, [(.t 4)],
    (.seq (.reg [⟨(some 2), (.box 25 (.tmp 0)), none⟩, ⟨(some 4), (.mv (.const (.bool false))), none⟩])
    (.seq (.reg [⟨(some 5), (.ldn 3 (.tmp 2)), none⟩, ⟨(some 6), (.pcall 65 [(.tmp 5)]), none⟩, ⟨(some 7), (.mv (.tmp 6)), none⟩, ⟨(some 8), (.mv (.tmp 1)), (some (7, true))⟩, ⟨(some 9), (.len (.tmp 8)), (some (7, true))⟩, ⟨(some 10), (.ldn 3 (.tmp 2)), (some (7, true))⟩, ⟨(some 11), (.pcall 16 [(.tmp 10)]), (some (7, true))⟩, ⟨(some 12), (.cmp .eql (.tmp 9) (.tmp 11)), (some (7, true))⟩, ⟨(some 13), (.pick (.tmp 7) (.tmp 12) (.const (.bool false))), none⟩, ⟨(some 4), (.mv (.tmp 13)), none⟩]) .ret))⟩ := by kernel_rfl

/-- allotment/allotmentlaw2.Model -/
theorem tr44 : trF Try.prog pures Try.f44 = some
  ⟨14, [(.t 2)],
    (.seq (.reg [⟨(some 2), (.mv (.const (.pointer none))), none⟩])
    (.seq (.reg [⟨(some 4), (.mv (.tmp 0)), none⟩, ⟨(some 5), (.len (.tmp 4)), none⟩, ⟨(some 6), (.call 99 [(.tmp 5)]), none⟩, ⟨(some 3), (.mv (.tmp 6)), none⟩])
    (.seq (.reg [⟨(some 7), (.mv (.tmp 3)), none⟩, ⟨(some 8), (.nilck (.tmp 7)), none⟩, ⟨(some 9), (.fad 0 (.tmp 8)), none⟩, ⟨(some 10), (.ld1 (.tmp 9)), none⟩, ⟨(some 11), (.mv (.tmp 0)), none⟩, ⟨(some 12), (.cpy 1 (.tmp 10) (.tmp 11)), none⟩])
    (.seq (.reg [⟨(some 13), (.mv (.tmp 3)), none⟩, ⟨(some 2), (.mv (.tmp 13)), none⟩]) .ret))))⟩ := by kernel_rfl

/-- allotment/allotmentlaw8.Steps -/
theorem tr47 : trF Try.prog pures Try.f47 = some
  ⟨30, [(.t 4)],
    (.seq (.reg [⟨(some 4), (.mv (.const (.bool false))), none⟩])
    (.seq (.draw (.take ⟨(some 5), (.mv (.tmp 0)), none⟩ (.take ⟨(some 7), (.mv (.tmp 1)), none⟩ (.take ⟨(some 8), (.nilck (.tmp 7)), none⟩ (.take ⟨(some 9), (.fad 1 (.tmp 8)), none⟩ (.take ⟨(some 10), (.ld1 (.tmp 9)), none⟩ (.alt false ⟨(some 6), (.call 36 [(.tmp 5)]), none⟩ (.take ⟨(some 11), (.cmp .eql (.tmp 6) (.tmp 10)), none⟩ (.take ⟨(some 12), (.mv (.tmp 11)), none⟩ (.take ⟨(some 13), (.mv (.tmp 0)), (some (12, true))⟩ (.take ⟨(some 15), (.mv (.tmp 1)), (some (12, true))⟩ (.take ⟨(some 16), (.nilck (.tmp 15)), (some (12, true))⟩ (.take ⟨(some 17), (.fad 2 (.tmp 16)), (some (12, true))⟩ (.take ⟨(some 18), (.ldn 6 (.tmp 17)), (some (12, true))⟩ (.alt false ⟨(some 14), (.call 112 [(.tmp 13)]), (some (12, true))⟩ (.take ⟨(some 19), (.aeq false [(0, false), (1, false), (2, false), (3, false), (4, false), (5, true)] (.tmp 14) (.tmp 18)), (some (12, true))⟩ (.take ⟨(some 20), (.pick (.tmp 12) (.tmp 19) (.const (.bool false))), none⟩ (.take ⟨(some 21), (.mv (.tmp 20)), none⟩ (.take ⟨(some 22), (.mv (.tmp 0)), (some (21, true))⟩ (.take ⟨(some 24), (.mv (.tmp 1)), (some (21, true))⟩ (.take ⟨(some 25), (.nilck (.tmp 24)), (some (21, true))⟩ (.take ⟨(some 26), (.fad 0 (.tmp 25)), (some (21, true))⟩ (.take ⟨(some 27), (.ld1 (.tmp 26)), (some (21, true))⟩ (.alt false ⟨(some 23), (.call 40 [(.tmp 22)]), (some (21, true))⟩ (.alt false ⟨(some 28), (.call 43 [(.tmp 23), (.tmp 27)]), (some (21, true))⟩ (.take ⟨(some 29), (.pick (.tmp 21) (.tmp 28) (.const (.bool false))), none⟩ (.take ⟨(some 4), (.mv (.tmp 29)), none⟩ .done)) .stop) .stop))))))))) .stop)))))))) .stop))))))) .ret))⟩ := by kernel_rfl

/-- allotment/allotmentlaw18.awake -/
theorem tr50 : trF Try.prog pures Try.f50 = some
  ⟨68, [(.t 0)],
    (.seq (.reg [⟨(some 0), (.mv (.const (.bool false))), none⟩])
    (.seq (.reg [⟨(some 7), (.bld #[(.int .i64 0), (.int .i64 0), (.int .i64 0)] [(0, (1, (.const (.int .i64 1)))), (1, (1, (.const (.int .i64 2)))), (2, (1, (.const (.int .i64 1))))]), none⟩, ⟨(some 1), (.alc 25 (.agg #[(.int .i64 0), (.int .i64 0), (.int .i64 0)])), none⟩, ⟨none, (.stn 3 (.tmp 1) (.tmp 7)), none⟩])
    (.seq (.reg [⟨(some 8), (.ldn 3 (.tmp 1)), none⟩, ⟨(some 9), (.pcall 16 [(.tmp 8)]), none⟩, ⟨(some 10), (.mks 29 8 (.int .u64 0) (.tmp 9) (.tmp 9)), none⟩, ⟨(some 2), (.mv (.tmp 10)), none⟩])
    (.seq (.reg [⟨(some 11), (.mv (.tmp 2)), none⟩, ⟨(some 12), (.mv (.tmp 2)), none⟩, ⟨(some 13), (.pcall 53 [(.const (.int .i64 1)), (.const (.int .i64 0))]), none⟩, ⟨(some 14), (.pcall 53 [(.const (.int .i64 1)), (.const (.int .i64 0))]), none⟩, ⟨(some 15), (.iad 1 (.tmp 11) (.const (.int .i64 0))), none⟩, ⟨none, (.st1 (.tmp 15) (.tmp 13)), none⟩, ⟨(some 16), (.iad 1 (.tmp 12) (.const (.int .i64 1))), none⟩, ⟨none, (.st1 (.tmp 16) (.tmp 14)), none⟩])
    (.seq (.reg [⟨(some 17), (.mv (.tmp 2)), none⟩, ⟨(some 18), (.call 22 [(.tmp 17)]), none⟩, ⟨(some 3), (.mv (.tmp 18)), none⟩])
    (.seq (.draw (.take ⟨(some 19), (.ldn 3 (.tmp 1)), none⟩ (.take ⟨(some 21), (.ldn 3 (.tmp 1)), none⟩ (.alt false ⟨(some 20), (.call 51 [(.tmp 19), (.const (.int .i64 0)), (.const (.int .i64 1))]), none⟩ (.alt false ⟨(some 22), (.call 51 [(.tmp 21), (.const (.int .i64 0)), (.const (.int .i64 1))]), none⟩ (.take ⟨(some 4), (.mv (.tmp 20)), none⟩ (.take ⟨(some 5), (.mv (.tmp 22)), none⟩ .done)) .stop) .stop))))
    (.seq (.seq
    (.reg [⟨(some 23), (.mv (.tmp 3)), none⟩, ⟨(some 24), (.pnil false (.tmp 23)), none⟩, ⟨(some 25), (.mv (.tmp 24)), none⟩, ⟨(some 26), (.mv (.tmp 4)), (some (25, false))⟩, ⟨(some 27), (.pnil false (.tmp 26)), (some (25, false))⟩, ⟨(some 28), (.pick (.tmp 25) (.const (.bool true)) (.tmp 27)), none⟩, ⟨(some 29), (.mv (.tmp 28)), none⟩, ⟨(some 30), (.mv (.tmp 5)), (some (29, false))⟩, ⟨(some 31), (.pnil false (.tmp 30)), (some (29, false))⟩, ⟨(some 32), (.pick (.tmp 29) (.const (.bool true)) (.tmp 31)), none⟩])
    (.cond (.tmp 32)
    (.seq (.reg [⟨(some 0), (.mv (.const (.bool false))), none⟩]) .ret) .skip))
    (.seq (.reg [⟨(some 33), (.mv (.tmp 4)), none⟩, ⟨(some 34), (.mv (.tmp 3)), none⟩, ⟨(some 35), (.call 54 [(.tmp 33), (.tmp 34)]), none⟩])
    (.seq (.reg [⟨(some 36), (.mv (.tmp 3)), none⟩, ⟨(some 37), (.pcall 53 [(.const (.int .i64 2)), (.const (.int .i64 0))]), none⟩, ⟨(some 38), (.call 52 [(.tmp 36), (.const (.int .i64 1)), (.tmp 37)]), none⟩])
    (.seq (.seq
    (.reg [⟨(some 6), (.mv (.const (.int .i64 0))), none⟩])
    (.block 0
    (.loop (.seq
    (.seq (.reg [⟨(some 39), (.mv (.tmp 6)), none⟩, ⟨(some 40), (.cmp .lss (.tmp 39) (.const (.int .i64 60))), none⟩])
    (.cond (.tmp 40) .skip (.exit 0)))
    (.seq (.block 1
    (.reg [⟨(some 43), (.mv (.tmp 5)), none⟩, ⟨(some 44), (.mv (.tmp 3)), none⟩, ⟨(some 45), (.call 54 [(.tmp 43), (.tmp 44)]), none⟩]))
    (.reg [⟨(some 41), (.mv (.tmp 6)), none⟩, ⟨(some 42), (.ar .add (.tmp 41) (.const (.int .i64 1))), none⟩, ⟨(some 6), (.mv (.tmp 42)), none⟩]))))))
    (.seq (.reg [⟨(some 46), (.mv (.tmp 4)), none⟩, ⟨(some 47), (.call 55 [(.tmp 46)]), none⟩, ⟨(some 48), (.mv (.tmp 47)), none⟩, ⟨(some 49), (.mv (.tmp 4)), (some (48, true))⟩, ⟨(some 50), (.call 56 [(.tmp 49)]), (some (48, true))⟩, ⟨(some 51), (.cmp .eql (.tmp 50) (.const (.int .i64 5))), (some (48, true))⟩, ⟨(some 52), (.pick (.tmp 48) (.tmp 51) (.const (.bool false))), none⟩, ⟨(some 53), (.mv (.tmp 52)), none⟩, ⟨(some 54), (.mv (.tmp 5)), (some (53, true))⟩, ⟨(some 55), (.call 55 [(.tmp 54)]), (some (53, true))⟩, ⟨(some 56), (.pick (.tmp 53) (.tmp 55) (.const (.bool false))), none⟩, ⟨(some 57), (.mv (.tmp 56)), none⟩, ⟨(some 58), (.mv (.tmp 5)), (some (57, true))⟩, ⟨(some 59), (.call 56 [(.tmp 58)]), (some (57, true))⟩, ⟨(some 60), (.cmp .eql (.tmp 59) (.const (.int .i64 0))), (some (57, true))⟩, ⟨(some 61), (.pick (.tmp 57) (.tmp 60) (.const (.bool false))), none⟩, ⟨(some 62), (.mv (.tmp 61)), none⟩, ⟨(some 63), (.mv (.tmp 3)), (some (62, true))⟩, ⟨(some 64), (.call 27 [(.tmp 63), (.const (.int .i64 1))]), (some (62, true))⟩, ⟨(some 65), (.pcall 53 [(.const (.int .i64 4)), (.const (.int .i64 0))]), (some (62, true))⟩, ⟨(some 66), (.cmp .eql (.tmp 64) (.tmp 65)), (some (62, true))⟩, ⟨(some 67), (.pick (.tmp 62) (.tmp 66) (.const (.bool false))), none⟩, ⟨(some 0), (.mv (.tmp 67)), none⟩]) .ret)))))))))))⟩ := by kernel_rfl

/-- allotment/allotmentlaw13.awake -/
theorem tr59 : trF Try.prog pures Try.f59 = some
  ⟨51, [(.t 0)],
    (.seq (.reg [⟨(some 0), (.mv (.const (.bool false))), none⟩])
    (.seq (.reg [⟨(some 8), (.bld #[(.int .i64 0), (.int .i64 0), (.int .i64 0)] [(0, (1, (.const (.int .i64 1)))), (1, (1, (.const (.int .i64 1))))]), none⟩, ⟨(some 1), (.alc 25 (.agg #[(.int .i64 0), (.int .i64 0), (.int .i64 0)])), none⟩, ⟨none, (.stn 3 (.tmp 1) (.tmp 8)), none⟩])
    (.seq (.reg [⟨(some 9), (.ldn 3 (.tmp 1)), none⟩, ⟨(some 10), (.call 60 [(.tmp 9)]), none⟩, ⟨(some 11), (.call 22 [(.tmp 10)]), none⟩, ⟨(some 2), (.mv (.tmp 11)), none⟩])
    (.seq (.reg [⟨(some 12), (.ldn 3 (.tmp 1)), none⟩, ⟨(some 13), (.call 61 [(.tmp 12), (.const (.int .i64 0)), (.const (.int .i64 3)), (.const (.int .i64 0))]), none⟩, ⟨(some 3), (.mv (.tmp 13)), none⟩])
    (.seq (.seq
    (.reg [⟨(some 14), (.mv (.tmp 2)), none⟩, ⟨(some 15), (.pnil false (.tmp 14)), none⟩, ⟨(some 16), (.mv (.tmp 15)), none⟩, ⟨(some 17), (.mv (.tmp 3)), (some (16, false))⟩, ⟨(some 18), (.pnil false (.tmp 17)), (some (16, false))⟩, ⟨(some 19), (.pick (.tmp 16) (.const (.bool true)) (.tmp 18)), none⟩])
    (.cond (.tmp 19)
    (.seq (.reg [⟨(some 0), (.mv (.const (.bool false))), none⟩]) .ret) .skip))
    (.seq (.seq
    (.reg [⟨(some 4), (.mv (.const (.int .i64 0))), none⟩])
    (.block 0
    (.loop (.seq
    (.seq (.reg [⟨(some 20), (.mv (.tmp 4)), none⟩, ⟨(some 21), (.cmp .lss (.tmp 20) (.const (.int .i64 21))), none⟩])
    (.cond (.tmp 21) .skip (.exit 0)))
    (.seq (.block 1
    (.reg [⟨(some 24), (.mv (.tmp 3)), none⟩, ⟨(some 25), (.mv (.tmp 2)), none⟩, ⟨(some 26), (.call 62 [(.tmp 24), (.tmp 25)]), none⟩]))
    (.reg [⟨(some 22), (.mv (.tmp 4)), none⟩, ⟨(some 23), (.ar .add (.tmp 22) (.const (.int .i64 1))), none⟩, ⟨(some 4), (.mv (.tmp 23)), none⟩]))))))
    (.seq (.reg [⟨(some 28), (.mv (.tmp 3)), none⟩, ⟨(some 29), (.call 63 [(.tmp 28)]), none⟩, ⟨(some 27), (.mv (.tmp 29)), none⟩, ⟨(some 30), (.ext 0 (.tmp 27)), none⟩, ⟨(some 31), (.ext 1 (.tmp 27)), none⟩, ⟨(some 32), (.ext 2 (.tmp 27)), none⟩, ⟨(some 5), (.mv (.tmp 30)), none⟩, ⟨(some 6), (.mv (.tmp 31)), none⟩, ⟨(some 7), (.mv (.tmp 32)), none⟩])
    (.seq (.reg [⟨(some 33), (.mv (.tmp 3)), none⟩, ⟨(some 34), (.call 64 [(.tmp 33)]), none⟩, ⟨(some 35), (.mv (.tmp 34)), none⟩, ⟨(some 36), (.mv (.tmp 7)), (some (35, true))⟩, ⟨(some 37), (.pick (.tmp 35) (.tmp 36) (.const (.bool false))), none⟩, ⟨(some 38), (.mv (.tmp 37)), none⟩, ⟨(some 39), (.mv (.tmp 5)), (some (38, true))⟩, ⟨(some 40), (.cmp .eql (.tmp 39) (.const (.int .i64 0))), (some (38, true))⟩, ⟨(some 41), (.pick (.tmp 38) (.tmp 40) (.const (.bool false))), none⟩, ⟨(some 42), (.mv (.tmp 41)), none⟩, ⟨(some 43), (.mv (.tmp 6)), (some (42, true))⟩, ⟨(some 44), (.cmp .eql (.tmp 43) (.const (.int .i64 0))), (some (42, true))⟩, ⟨(some 45), (.pick (.tmp 42) (.tmp 44) (.const (.bool false))), none⟩, ⟨(some 46), (.mv (.tmp 45)), none⟩, ⟨(some 47), (.mv (.tmp 2)), (some (46, true))⟩, ⟨(some 48), (.call 36 [(.tmp 47)]), (some (46, true))⟩, ⟨(some 49), (.cmp .eql (.tmp 48) (.const (.int .i64 21))), (some (46, true))⟩, ⟨(some 50), (.pick (.tmp 46) (.tmp 49) (.const (.bool false))), none⟩, ⟨(some 0), (.mv (.tmp 50)), none⟩]) .ret))))))))⟩ := by kernel_rfl

/-- allotment/allotmentlaw13.Blank -/
theorem tr60 : trF Try.prog pures Try.f60 = some
  ⟨6, [(.t 2)],
    (.seq (.reg [⟨(some 1), (.box 25 (.tmp 0)), none⟩, ⟨(some 2), (.mv (.const (.slice none 0 0))), none⟩])
    (.seq (.reg [⟨(some 3), (.ldn 3 (.tmp 1)), none⟩, ⟨(some 4), (.pcall 16 [(.tmp 3)]), none⟩, ⟨(some 5), (.mks 29 8 (.int .u64 0) (.tmp 4) (.tmp 4)), none⟩, ⟨(some 2), (.mv (.tmp 5)), none⟩]) .ret))⟩ := by kernel_rfl

end Go.Proofs.Ytbehnodllajnjaa
