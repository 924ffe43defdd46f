/-
  The compact code of functions of this seat, as translated from the model: each translation holds by reckoning. Conditions: none.
-/
import Derived.Test.YtfopnendmcpglaaCode
set_option maxRecDepth 100000
namespace Go.Proofs.Ytfopnendmcpglaa
open Go Go.Ev

/-- allotment/allotmentlaw13.SeekFirst -/
theorem tr10 : trF Try.prog pures Try.f10 = some
  ⟨225, [(.t 6)],
    (.seq (.reg [⟨(some 3), (.box 23 (.tmp 0)), none⟩, ⟨(some 5), (.box 86 (.tmp 2)), none⟩, ⟨(some 6), (.mv (.const (.bool false))), none⟩])
    (.seq (.seq
    (.reg [⟨(some 26), (.call 45 []), none⟩, ⟨(some 27), (.nt (.tmp 26)), none⟩])
    (.cond (.tmp 27)
    (.seq (.reg [⟨(some 6), (.mv (.const (.bool false))), none⟩]) .ret) .skip))
    (.seq (.seq
    (.reg [⟨(some 28), (.ldn 3 (.tmp 3)), none⟩, ⟨(some 29), (.mv (.tmp 1)), none⟩, ⟨(some 30), (.call 13 [(.tmp 28), (.tmp 29)]), none⟩, ⟨(some 31), (.nt (.tmp 30)), none⟩, ⟨(some 32), (.mv (.tmp 31)), none⟩, ⟨(some 33), (.ldn 3 (.tmp 3)), (some (32, false))⟩, ⟨(some 34), (.mv (.tmp 1)), (some (32, false))⟩, ⟨(some 35), (.call 14 [(.tmp 33), (.tmp 34)]), (some (32, false))⟩, ⟨(some 36), (.nt (.tmp 35)), (some (32, false))⟩, ⟨(some 37), (.pick (.tmp 32) (.const (.bool true)) (.tmp 36)), none⟩, ⟨(some 38), (.mv (.tmp 37)), none⟩, ⟨(some 39), (.ldn 3 (.tmp 3)), (some (38, false))⟩, ⟨(some 40), (.iadA 3 1 (.tmp 5) (.const (.int .i64 0))), (some (38, false))⟩, ⟨(some 41), (.ld1 (.tmp 40)), (some (38, false))⟩, ⟨(some 42), (.pcall 15 [(.tmp 39), (.tmp 41)]), (some (38, false))⟩, ⟨(some 43), (.cmp .lss (.tmp 42) (.const (.int .i64 0))), (some (38, false))⟩, ⟨(some 44), (.pick (.tmp 38) (.const (.bool true)) (.tmp 43)), none⟩])
    (.cond (.tmp 44)
    (.seq (.reg [⟨(some 6), (.mv (.const (.bool true))), none⟩]) .ret) .skip))
    (.seq (.reg [⟨(some 45), (.iadA 3 1 (.tmp 5) (.const (.int .i64 1))), none⟩, ⟨(some 46), (.ld1 (.tmp 45)), none⟩, ⟨(some 47), (.dv .rem (.tmp 46) (.const (.int .i64 4))), none⟩, ⟨(some 48), (.ar .add (.tmp 47) (.const (.int .i64 4))), none⟩, ⟨(some 49), (.dv .rem (.tmp 48) (.const (.int .i64 4))), none⟩, ⟨(some 7), (.mv (.tmp 49)), none⟩])
    (.seq (.reg [⟨(some 50), (.ldn 3 (.tmp 3)), none⟩, ⟨(some 51), (.mv (.tmp 1)), none⟩, ⟨(some 52), (.call 23 [(.tmp 50), (.tmp 51), (.const (.int .i64 1))]), none⟩, ⟨(some 8), (.mv (.tmp 52)), none⟩])
    (.seq (.seq
    (.reg [⟨(some 9), (.mv (.const (.int .i64 0))), none⟩])
    (.block 0
    (.loop (.seq
    (.seq (.reg [⟨(some 53), (.mv (.tmp 9)), none⟩, ⟨(some 54), (.fad 0 (.tmp 3)), none⟩, ⟨(some 55), (.ld1 (.tmp 54)), none⟩, ⟨(some 56), (.cmp .lss (.tmp 53) (.tmp 55)), none⟩])
    (.cond (.tmp 56) .skip (.exit 0)))
    (.seq (.block 1
    (.seq (.reg [⟨(some 10), (.mv (.const (.int .i64 0))), none⟩])
    (.block 2
    (.loop (.seq
    (.seq (.reg [⟨(some 59), (.mv (.tmp 10)), none⟩, ⟨(some 60), (.cmp .lss (.tmp 59) (.const (.int .i64 16))), none⟩])
    (.cond (.tmp 60) .skip (.exit 2)))
    (.seq (.block 3
    (.seq (.draw (.take ⟨(some 64), (.ldn 3 (.tmp 3)), none⟩ (.take ⟨(some 65), (.mv (.tmp 9)), none⟩ (.take ⟨(some 66), (.mv (.tmp 1)), none⟩ (.take ⟨(some 67), (.ldn 3 (.tmp 3)), none⟩ (.take ⟨(some 68), (.mv (.tmp 9)), none⟩ (.alt false ⟨(some 69), (.pcall 40 [(.tmp 67), (.tmp 68)]), none⟩ (.take ⟨(some 70), (.iad 1 (.tmp 66) (.tmp 69)), none⟩ (.take ⟨(some 71), (.ld1 (.tmp 70)), none⟩ (.alt false ⟨(some 72), (.pcall 41 [(.tmp 64), (.tmp 65), (.tmp 71)]), none⟩ (.take ⟨(some 63), (.mv (.tmp 72)), none⟩ (.take ⟨(some 73), (.ext 0 (.tmp 63)), none⟩ (.take ⟨(some 74), (.ext 1 (.tmp 63)), none⟩ (.alt false ⟨(some 11), (.alc 59 (.agg #[(.int .i64 0), (.int .i64 0), (.int .i64 0)])), none⟩ (.alt false ⟨none, (.stn 3 (.tmp 11) (.tmp 73)), none⟩ (.take ⟨(some 12), (.mv (.tmp 74)), none⟩ .done) .stop) .stop)))) (.alt false ⟨(some 11), (.alc 59 (.agg #[(.int .i64 0), (.int .i64 0), (.int .i64 0)])), none⟩ (.alt false ⟨(some 72), (.pcall 41 [(.tmp 64), (.tmp 65), (.tmp 71)]), none⟩ (.take ⟨(some 63), (.mv (.tmp 72)), none⟩ (.take ⟨(some 73), (.ext 0 (.tmp 63)), none⟩ (.take ⟨(some 74), (.ext 1 (.tmp 63)), none⟩ (.alt false ⟨none, (.stn 3 (.tmp 11) (.tmp 73)), none⟩ (.take ⟨(some 12), (.mv (.tmp 74)), none⟩ .done) .stop)))) .stop) .stop)))) (.alt false ⟨(some 11), (.alc 59 (.agg #[(.int .i64 0), (.int .i64 0), (.int .i64 0)])), none⟩ (.alt false ⟨(some 69), (.pcall 40 [(.tmp 67), (.tmp 68)]), none⟩ (.take ⟨(some 70), (.iad 1 (.tmp 66) (.tmp 69)), none⟩ (.take ⟨(some 71), (.ld1 (.tmp 70)), none⟩ (.alt false ⟨(some 72), (.pcall 41 [(.tmp 64), (.tmp 65), (.tmp 71)]), none⟩ (.take ⟨(some 63), (.mv (.tmp 72)), none⟩ (.take ⟨(some 73), (.ext 0 (.tmp 63)), none⟩ (.take ⟨(some 74), (.ext 1 (.tmp 63)), none⟩ (.alt false ⟨none, (.stn 3 (.tmp 11) (.tmp 73)), none⟩ (.take ⟨(some 12), (.mv (.tmp 74)), none⟩ .done) .stop)))) .stop))) .stop) .stop))))))))
    (.seq (.reg [⟨(some 75), (.mv (.tmp 1)), none⟩, ⟨(some 76), (.ldn 3 (.tmp 3)), none⟩, ⟨(some 77), (.mv (.tmp 9)), none⟩, ⟨(some 78), (.mv (.tmp 10)), none⟩, ⟨(some 79), (.pcall 42 [(.tmp 76), (.tmp 77), (.tmp 78)]), none⟩, ⟨(some 80), (.iad 1 (.tmp 75) (.tmp 79)), none⟩, ⟨(some 81), (.ld1 (.tmp 80)), none⟩, ⟨(some 82), (.pcall 43 [(.tmp 81)]), none⟩, ⟨(some 13), (.alc 64 (.agg #[(.int .i64 0), (.int .i64 0)])), none⟩, ⟨none, (.stn 2 (.tmp 13) (.tmp 82)), none⟩])
    (.reg [⟨(some 83), (.mv (.tmp 8)), none⟩, ⟨(some 84), (.mv (.tmp 83)), none⟩, ⟨(some 85), (.fad 0 (.tmp 11)), (some (84, false))⟩, ⟨(some 86), (.ld1 (.tmp 85)), (some (84, false))⟩, ⟨(some 87), (.cmp .eql (.tmp 86) (.const (.int .i64 2))), (some (84, false))⟩, ⟨(some 88), (.mv (.tmp 87)), (some (84, false))⟩, ⟨(some 89), (.fad 0 (.tmp 13)), (some (88, true))⟩, ⟨(some 90), (.ld1 (.tmp 89)), (some (88, true))⟩, ⟨(some 91), (.cmp .eql (.tmp 90) (.const (.int .i64 1))), (some (88, true))⟩, ⟨(some 92), (.pick (.tmp 88) (.tmp 91) (.const (.bool false))), (some (84, false))⟩, ⟨(some 93), (.mv (.tmp 92)), (some (84, false))⟩, ⟨(some 94), (.fad 1 (.tmp 13)), (some (93, true))⟩, ⟨(some 95), (.ld1 (.tmp 94)), (some (93, true))⟩, ⟨(some 96), (.mv (.tmp 7)), (some (93, true))⟩, ⟨(some 97), (.cmp .eql (.tmp 95) (.tmp 96)), (some (93, true))⟩, ⟨(some 98), (.pick (.tmp 93) (.tmp 97) (.const (.bool false))), (some (84, false))⟩, ⟨(some 99), (.pick (.tmp 84) (.const (.bool true)) (.tmp 98)), none⟩, ⟨(some 8), (.mv (.tmp 99)), none⟩]))))
    (.reg [⟨(some 61), (.mv (.tmp 10)), none⟩, ⟨(some 62), (.ar .add (.tmp 61) (.const (.int .i64 1))), none⟩, ⟨(some 10), (.mv (.tmp 62)), none⟩])))))))
    (.reg [⟨(some 57), (.mv (.tmp 9)), none⟩, ⟨(some 58), (.ar .add (.tmp 57) (.const (.int .i64 1))), none⟩, ⟨(some 9), (.mv (.tmp 58)), none⟩]))))))
    (.seq (.seq
    (.reg [⟨(some 14), (.mv (.const (.int .i64 0))), none⟩])
    (.block 4
    (.loop (.seq
    (.seq (.reg [⟨(some 100), (.mv (.tmp 14)), none⟩, ⟨(some 101), (.fad 2 (.tmp 3)), none⟩, ⟨(some 102), (.ld1 (.tmp 101)), none⟩, ⟨(some 103), (.cmp .lss (.tmp 100) (.tmp 102)), none⟩])
    (.cond (.tmp 103) .skip (.exit 4)))
    (.seq (.block 5
    (.seq (.draw (.take ⟨(some 107), (.ldn 3 (.tmp 3)), none⟩ (.take ⟨(some 108), (.mv (.tmp 1)), none⟩ (.take ⟨(some 109), (.ldn 3 (.tmp 3)), none⟩ (.take ⟨(some 110), (.iadA 3 1 (.tmp 5) (.const (.int .i64 0))), none⟩ (.take ⟨(some 111), (.ld1 (.tmp 110)), none⟩ (.take ⟨(some 112), (.mv (.tmp 14)), none⟩ (.alt false ⟨(some 113), (.pcall 44 [(.tmp 109), (.tmp 111), (.tmp 112)]), none⟩ (.take ⟨(some 114), (.iad 1 (.tmp 108) (.tmp 113)), none⟩ (.take ⟨(some 115), (.ld1 (.tmp 114)), none⟩ (.alt false ⟨(some 116), (.pcall 57 [(.tmp 107), (.tmp 115)]), none⟩ (.take ⟨(some 106), (.mv (.tmp 116)), none⟩ (.take ⟨(some 117), (.ext 0 (.tmp 106)), none⟩ (.take ⟨(some 118), (.ext 1 (.tmp 106)), none⟩ (.alt false ⟨(some 15), (.alc 83 (.agg #[(.int .i64 0), (.int .i64 0), (.int .i64 0)])), none⟩ (.alt false ⟨none, (.stn 3 (.tmp 15) (.tmp 117)), none⟩ (.take ⟨(some 16), (.mv (.tmp 118)), none⟩ .done) .stop) .stop)))) (.alt false ⟨(some 15), (.alc 83 (.agg #[(.int .i64 0), (.int .i64 0), (.int .i64 0)])), none⟩ (.alt false ⟨(some 116), (.pcall 57 [(.tmp 107), (.tmp 115)]), none⟩ (.take ⟨(some 106), (.mv (.tmp 116)), none⟩ (.take ⟨(some 117), (.ext 0 (.tmp 106)), none⟩ (.take ⟨(some 118), (.ext 1 (.tmp 106)), none⟩ (.alt false ⟨none, (.stn 3 (.tmp 15) (.tmp 117)), none⟩ (.take ⟨(some 16), (.mv (.tmp 118)), none⟩ .done) .stop)))) .stop) .stop)))) (.alt false ⟨(some 15), (.alc 83 (.agg #[(.int .i64 0), (.int .i64 0), (.int .i64 0)])), none⟩ (.alt false ⟨(some 113), (.pcall 44 [(.tmp 109), (.tmp 111), (.tmp 112)]), none⟩ (.take ⟨(some 114), (.iad 1 (.tmp 108) (.tmp 113)), none⟩ (.take ⟨(some 115), (.ld1 (.tmp 114)), none⟩ (.alt false ⟨(some 116), (.pcall 57 [(.tmp 107), (.tmp 115)]), none⟩ (.take ⟨(some 106), (.mv (.tmp 116)), none⟩ (.take ⟨(some 117), (.ext 0 (.tmp 106)), none⟩ (.take ⟨(some 118), (.ext 1 (.tmp 106)), none⟩ (.alt false ⟨none, (.stn 3 (.tmp 15) (.tmp 117)), none⟩ (.take ⟨(some 16), (.mv (.tmp 118)), none⟩ .done) .stop)))) .stop))) .stop) .stop)))))))))
    (.reg [⟨(some 119), (.mv (.tmp 8)), none⟩, ⟨(some 120), (.mv (.tmp 119)), none⟩, ⟨(some 121), (.mv (.tmp 16)), (some (120, false))⟩, ⟨(some 122), (.mv (.tmp 121)), (some (120, false))⟩, ⟨(some 123), (.fad 2 (.tmp 15)), (some (122, true))⟩, ⟨(some 124), (.ld1 (.tmp 123)), (some (122, true))⟩, ⟨(some 125), (.mv (.tmp 7)), (some (122, true))⟩, ⟨(some 126), (.cmp .eql (.tmp 124) (.tmp 125)), (some (122, true))⟩, ⟨(some 127), (.pick (.tmp 122) (.tmp 126) (.const (.bool false))), (some (120, false))⟩, ⟨(some 128), (.pick (.tmp 120) (.const (.bool true)) (.tmp 127)), none⟩, ⟨(some 8), (.mv (.tmp 128)), none⟩])))
    (.reg [⟨(some 104), (.mv (.tmp 14)), none⟩, ⟨(some 105), (.ar .add (.tmp 104) (.const (.int .i64 1))), none⟩, ⟨(some 14), (.mv (.tmp 105)), none⟩]))))))
    (.seq (.seq
    (.reg [⟨(some 17), (.mv (.const (.int .i64 0))), none⟩])
    (.block 6
    (.loop (.seq
    (.seq (.reg [⟨(some 129), (.mv (.tmp 17)), none⟩, ⟨(some 130), (.fad 0 (.tmp 3)), none⟩, ⟨(some 131), (.ld1 (.tmp 130)), none⟩, ⟨(some 132), (.cmp .lss (.tmp 129) (.tmp 131)), none⟩])
    (.cond (.tmp 132) .skip (.exit 6)))
    (.seq (.block 7
    (.seq (.reg [⟨(some 135), (.mv (.tmp 1)), none⟩, ⟨(some 136), (.call 16 [(.tmp 135)]), none⟩, ⟨(some 18), (.mv (.tmp 136)), none⟩])
    (.seq (.reg [⟨(some 137), (.ldn 3 (.tmp 3)), none⟩, ⟨(some 138), (.iadA 3 1 (.tmp 5) (.const (.int .i64 0))), none⟩, ⟨(some 139), (.ld1 (.tmp 138)), none⟩, ⟨(some 140), (.mv (.tmp 7)), none⟩, ⟨(some 141), (.mv (.tmp 17)), none⟩, ⟨(some 142), (.call 48 [(.tmp 137), (.tmp 139), (.tmp 140), (.tmp 141)]), none⟩, ⟨(some 19), (.mv (.tmp 142)), none⟩])
    (.seq (.seq
    (.reg [⟨(some 143), (.mv (.tmp 18)), none⟩, ⟨(some 144), (.pnil false (.tmp 143)), none⟩, ⟨(some 145), (.mv (.tmp 144)), none⟩, ⟨(some 146), (.mv (.tmp 19)), (some (145, false))⟩, ⟨(some 147), (.pnil false (.tmp 146)), (some (145, false))⟩, ⟨(some 148), (.pick (.tmp 145) (.const (.bool true)) (.tmp 147)), none⟩])
    (.cond (.tmp 148)
    (.seq (.reg [⟨(some 6), (.mv (.const (.bool false))), none⟩]) .ret) .skip))
    (.seq (.seq
    (.reg [⟨(some 20), (.mv (.const (.int .i64 0))), none⟩])
    (.block 8
    (.loop (.seq
    (.seq (.reg [⟨(some 149), (.mv (.tmp 20)), none⟩, ⟨(some 150), (.fad 2 (.tmp 3)), none⟩, ⟨(some 151), (.ld1 (.tmp 150)), none⟩, ⟨(some 152), (.fad 0 (.tmp 3)), none⟩, ⟨(some 153), (.ld1 (.tmp 152)), none⟩, ⟨(some 154), (.ar .mul (.const (.int .i64 80)) (.tmp 153)), none⟩, ⟨(some 155), (.ar .add (.tmp 151) (.tmp 154)), none⟩, ⟨(some 156), (.ar .add (.tmp 155) (.const (.int .i64 80))), none⟩, ⟨(some 157), (.cmp .lss (.tmp 149) (.tmp 156)), none⟩, ⟨(some 158), (.mv (.tmp 157)), none⟩, ⟨(some 159), (.mv (.tmp 19)), (some (158, true))⟩, ⟨(some 160), (.call 51 [(.tmp 159)]), (some (158, true))⟩, ⟨(some 161), (.nt (.tmp 160)), (some (158, true))⟩, ⟨(some 162), (.pick (.tmp 158) (.tmp 161) (.const (.bool false))), none⟩])
    (.cond (.tmp 162) .skip (.exit 8)))
    (.seq (.block 9
    (.reg [⟨(some 165), (.mv (.tmp 19)), none⟩, ⟨(some 166), (.mv (.tmp 18)), none⟩, ⟨(some 167), (.call 49 [(.tmp 165), (.tmp 166)]), none⟩]))
    (.reg [⟨(some 163), (.mv (.tmp 20)), none⟩, ⟨(some 164), (.ar .add (.tmp 163) (.const (.int .i64 1))), none⟩, ⟨(some 20), (.mv (.tmp 164)), none⟩]))))))
    (.seq (.reg [⟨(some 169), (.mv (.tmp 19)), none⟩, ⟨(some 170), (.call 50 [(.tmp 169)]), none⟩, ⟨(some 168), (.mv (.tmp 170)), none⟩, ⟨(some 171), (.ext 0 (.tmp 168)), none⟩, ⟨(some 172), (.ext 1 (.tmp 168)), none⟩, ⟨(some 173), (.ext 2 (.tmp 168)), none⟩, ⟨(some 21), (.mv (.tmp 171)), none⟩, ⟨(some 22), (.mv (.tmp 172)), none⟩, ⟨(some 23), (.mv (.tmp 173)), none⟩])
    (.seq (.seq
    (.draw (.take ⟨(some 174), (.mv (.tmp 19)), none⟩ (.alt false ⟨(some 175), (.call 51 [(.tmp 174)]), none⟩ (.take ⟨(some 176), (.nt (.tmp 175)), none⟩ (.take ⟨(some 177), (.mv (.tmp 176)), none⟩ (.take ⟨(some 178), (.mv (.tmp 23)), (some (177, false))⟩ (.take ⟨(some 179), (.mv (.tmp 8)), (some (177, false))⟩ (.take ⟨(some 180), (.beq true (.tmp 178) (.tmp 179)), (some (177, false))⟩ (.take ⟨(some 181), (.pick (.tmp 177) (.const (.bool true)) (.tmp 180)), none⟩ (.take ⟨(some 182), (.mv (.tmp 181)), none⟩ (.take ⟨(some 183), (.ldn 3 (.tmp 3)), (some (182, false))⟩ (.take ⟨(some 184), (.mv (.tmp 18)), (some (182, false))⟩ (.alt false ⟨(some 185), (.call 20 [(.tmp 184)]), (some (182, false))⟩ (.alt false ⟨(some 186), (.call 14 [(.tmp 183), (.tmp 185)]), (some (182, false))⟩ (.take ⟨(some 187), (.nt (.tmp 186)), (some (182, false))⟩ (.take ⟨(some 188), (.pick (.tmp 182) (.const (.bool true)) (.tmp 187)), none⟩ .done)) .stop) .stop)))))))))) .stop)))
    (.cond (.tmp 188)
    (.seq (.reg [⟨(some 6), (.mv (.const (.bool false))), none⟩]) .ret) .skip))
    (.seq (.draw (.take ⟨(some 190), (.ldn 3 (.tmp 3)), none⟩ (.take ⟨(some 191), (.mv (.tmp 21)), none⟩ (.take ⟨(some 192), (.mv (.tmp 18)), none⟩ (.take ⟨(some 193), (.ldn 3 (.tmp 3)), none⟩ (.take ⟨(some 194), (.mv (.tmp 21)), none⟩ (.alt false ⟨(some 195), (.pcall 40 [(.tmp 193), (.tmp 194)]), none⟩ (.alt false ⟨(some 196), (.call 36 [(.tmp 192), (.tmp 195)]), none⟩ (.alt false ⟨(some 197), (.pcall 41 [(.tmp 190), (.tmp 191), (.tmp 196)]), none⟩ (.take ⟨(some 189), (.mv (.tmp 197)), none⟩ (.take ⟨(some 198), (.ext 0 (.tmp 189)), none⟩ (.take ⟨(some 199), (.ext 1 (.tmp 189)), none⟩ (.alt false ⟨(some 24), (.alc 59 (.agg #[(.int .i64 0), (.int .i64 0), (.int .i64 0)])), none⟩ (.alt false ⟨none, (.stn 3 (.tmp 24) (.tmp 198)), none⟩ (.take ⟨(some 25), (.mv (.tmp 199)), none⟩ .done) .stop) .stop)))) (.alt false ⟨(some 24), (.alc 59 (.agg #[(.int .i64 0), (.int .i64 0), (.int .i64 0)])), none⟩ (.alt false ⟨(some 197), (.pcall 41 [(.tmp 190), (.tmp 191), (.tmp 196)]), none⟩ (.take ⟨(some 189), (.mv (.tmp 197)), none⟩ (.take ⟨(some 198), (.ext 0 (.tmp 189)), none⟩ (.take ⟨(some 199), (.ext 1 (.tmp 189)), none⟩ (.alt false ⟨none, (.stn 3 (.tmp 24) (.tmp 198)), none⟩ (.take ⟨(some 25), (.mv (.tmp 199)), none⟩ .done) .stop)))) .stop) .stop)) (.alt false ⟨(some 24), (.alc 59 (.agg #[(.int .i64 0), (.int .i64 0), (.int .i64 0)])), none⟩ (.alt false ⟨(some 196), (.call 36 [(.tmp 192), (.tmp 195)]), none⟩ (.alt false ⟨(some 197), (.pcall 41 [(.tmp 190), (.tmp 191), (.tmp 196)]), none⟩ (.take ⟨(some 189), (.mv (.tmp 197)), none⟩ (.take ⟨(some 198), (.ext 0 (.tmp 189)), none⟩ (.take ⟨(some 199), (.ext 1 (.tmp 189)), none⟩ (.alt false ⟨none, (.stn 3 (.tmp 24) (.tmp 198)), none⟩ (.take ⟨(some 25), (.mv (.tmp 199)), none⟩ .done) .stop)))) .stop) .stop) .stop)) (.alt false ⟨(some 24), (.alc 59 (.agg #[(.int .i64 0), (.int .i64 0), (.int .i64 0)])), none⟩ (.alt false ⟨(some 195), (.pcall 40 [(.tmp 193), (.tmp 194)]), none⟩ (.alt false ⟨(some 196), (.call 36 [(.tmp 192), (.tmp 195)]), none⟩ (.alt false ⟨(some 197), (.pcall 41 [(.tmp 190), (.tmp 191), (.tmp 196)]), none⟩ (.take ⟨(some 189), (.mv (.tmp 197)), none⟩ (.take ⟨(some 198), (.ext 0 (.tmp 189)), none⟩ (.take ⟨(some 199), (.ext 1 (.tmp 189)), none⟩ (.alt false ⟨none, (.stn 3 (.tmp 24) (.tmp 198)), none⟩ (.take ⟨(some 25), (.mv (.tmp 199)), none⟩ .done) .stop)))) .stop) .stop) .stop) .stop))))))))
    (.seq (.draw (.take ⟨(some 200), (.mv (.tmp 23)), none⟩ (.take ⟨(some 201), (.mv (.tmp 200)), none⟩ (.take ⟨(some 202), (.fad 0 (.tmp 24)), (some (201, true))⟩ (.take ⟨(some 203), (.ld1 (.tmp 202)), (some (201, true))⟩ (.take ⟨(some 204), (.cmp .neq (.tmp 203) (.const (.int .i64 2))), (some (201, true))⟩ (.take ⟨(some 205), (.mv (.tmp 204)), (some (201, true))⟩ (.take ⟨(some 206), (.fad 1 (.tmp 24)), (some (205, false))⟩ (.take ⟨(some 207), (.ld1 (.tmp 206)), (some (205, false))⟩ (.take ⟨(some 208), (.mv (.tmp 7)), (some (205, false))⟩ (.take ⟨(some 209), (.cmp .neq (.tmp 207) (.tmp 208)), (some (205, false))⟩ (.take ⟨(some 210), (.pick (.tmp 205) (.const (.bool true)) (.tmp 209)), (some (201, true))⟩ (.take ⟨(some 211), (.mv (.tmp 210)), (some (201, true))⟩ (.take ⟨(some 212), (.mv (.tmp 18)), (some (211, false))⟩ (.take ⟨(some 213), (.ldn 3 (.tmp 3)), (some (211, false))⟩ (.take ⟨(some 214), (.mv (.tmp 21)), (some (211, false))⟩ (.take ⟨(some 215), (.mv (.tmp 22)), (some (211, false))⟩ (.take ⟨(some 218), (.iadA 3 1 (.tmp 5) (.const (.int .i64 0))), (some (211, false))⟩ (.take ⟨(some 219), (.ld1 (.tmp 218)), (some (211, false))⟩ (.take ⟨(some 220), (.bld #[(.int .i64 0), (.int .i64 0)] [(0, (1, (.const (.int .i64 2)))), (1, (1, (.tmp 219)))]), (some (211, false))⟩ (.alt false ⟨(some 216), (.pcall 42 [(.tmp 213), (.tmp 214), (.tmp 215)]), (some (211, false))⟩ (.alt false ⟨(some 217), (.call 36 [(.tmp 212), (.tmp 216)]), (some (211, false))⟩ (.alt false ⟨(some 221), (.pcall 52 [(.tmp 220)]), (some (211, false))⟩ (.take ⟨(some 222), (.cmp .neq (.tmp 217) (.tmp 221)), (some (211, false))⟩ (.take ⟨(some 223), (.pick (.tmp 211) (.const (.bool true)) (.tmp 222)), (some (201, true))⟩ (.take ⟨(some 224), (.pick (.tmp 201) (.tmp 223) (.const (.bool false))), none⟩ .done))) .stop) .stop) .stop)))))))))))))))))))))
    (.cond (.tmp 224)
    (.seq (.reg [⟨(some 6), (.mv (.const (.bool false))), none⟩]) .ret) .skip))))))))))
    (.reg [⟨(some 133), (.mv (.tmp 17)), none⟩, ⟨(some 134), (.ar .add (.tmp 133) (.const (.int .i64 1))), none⟩, ⟨(some 17), (.mv (.tmp 134)), none⟩]))))))
    (.seq (.reg [⟨(some 6), (.mv (.const (.bool true))), none⟩]) .ret)))))))))⟩ := by kernel_rfl

/-- allotment/allotmentlaw13.awake -/
theorem tr45 : trF Try.prog pures Try.f45 = some
  ⟨51, [(.t 0)],
    (.seq (.reg [⟨(some 0), (.mv (.const (.bool false))), none⟩])
    (.seq (.reg [⟨(some 8), (.bld #[(.int .i64 0), (.int .i64 0), (.int .i64 0)] [(0, (1, (.const (.int .i64 1)))), (1, (1, (.const (.int .i64 1))))]), none⟩, ⟨(some 1), (.alc 23 (.agg #[(.int .i64 0), (.int .i64 0), (.int .i64 0)])), none⟩, ⟨none, (.stn 3 (.tmp 1) (.tmp 8)), none⟩])
    (.seq (.reg [⟨(some 9), (.ldn 3 (.tmp 1)), none⟩, ⟨(some 10), (.call 47 [(.tmp 9)]), none⟩, ⟨(some 11), (.call 16 [(.tmp 10)]), none⟩, ⟨(some 2), (.mv (.tmp 11)), none⟩])
    (.seq (.reg [⟨(some 12), (.ldn 3 (.tmp 1)), none⟩, ⟨(some 13), (.call 48 [(.tmp 12), (.const (.int .i64 0)), (.const (.int .i64 3)), (.const (.int .i64 0))]), none⟩, ⟨(some 3), (.mv (.tmp 13)), none⟩])
    (.seq (.seq
    (.reg [⟨(some 14), (.mv (.tmp 2)), none⟩, ⟨(some 15), (.pnil false (.tmp 14)), none⟩, ⟨(some 16), (.mv (.tmp 15)), none⟩, ⟨(some 17), (.mv (.tmp 3)), (some (16, false))⟩, ⟨(some 18), (.pnil false (.tmp 17)), (some (16, false))⟩, ⟨(some 19), (.pick (.tmp 16) (.const (.bool true)) (.tmp 18)), none⟩])
    (.cond (.tmp 19)
    (.seq (.reg [⟨(some 0), (.mv (.const (.bool false))), none⟩]) .ret) .skip))
    (.seq (.seq
    (.reg [⟨(some 4), (.mv (.const (.int .i64 0))), none⟩])
    (.block 0
    (.loop (.seq
    (.seq (.reg [⟨(some 20), (.mv (.tmp 4)), none⟩, ⟨(some 21), (.cmp .lss (.tmp 20) (.const (.int .i64 21))), none⟩])
    (.cond (.tmp 21) .skip (.exit 0)))
    (.seq (.block 1
    (.reg [⟨(some 24), (.mv (.tmp 3)), none⟩, ⟨(some 25), (.mv (.tmp 2)), none⟩, ⟨(some 26), (.call 49 [(.tmp 24), (.tmp 25)]), none⟩]))
    (.reg [⟨(some 22), (.mv (.tmp 4)), none⟩, ⟨(some 23), (.ar .add (.tmp 22) (.const (.int .i64 1))), none⟩, ⟨(some 4), (.mv (.tmp 23)), none⟩]))))))
    (.seq (.reg [⟨(some 28), (.mv (.tmp 3)), none⟩, ⟨(some 29), (.call 50 [(.tmp 28)]), none⟩, ⟨(some 27), (.mv (.tmp 29)), none⟩, ⟨(some 30), (.ext 0 (.tmp 27)), none⟩, ⟨(some 31), (.ext 1 (.tmp 27)), none⟩, ⟨(some 32), (.ext 2 (.tmp 27)), none⟩, ⟨(some 5), (.mv (.tmp 30)), none⟩, ⟨(some 6), (.mv (.tmp 31)), none⟩, ⟨(some 7), (.mv (.tmp 32)), none⟩])
    (.seq (.reg [⟨(some 33), (.mv (.tmp 3)), none⟩, ⟨(some 34), (.call 51 [(.tmp 33)]), none⟩, ⟨(some 35), (.mv (.tmp 34)), none⟩, ⟨(some 36), (.mv (.tmp 7)), (some (35, true))⟩, ⟨(some 37), (.pick (.tmp 35) (.tmp 36) (.const (.bool false))), none⟩, ⟨(some 38), (.mv (.tmp 37)), none⟩, ⟨(some 39), (.mv (.tmp 5)), (some (38, true))⟩, ⟨(some 40), (.cmp .eql (.tmp 39) (.const (.int .i64 0))), (some (38, true))⟩, ⟨(some 41), (.pick (.tmp 38) (.tmp 40) (.const (.bool false))), none⟩, ⟨(some 42), (.mv (.tmp 41)), none⟩, ⟨(some 43), (.mv (.tmp 6)), (some (42, true))⟩, ⟨(some 44), (.cmp .eql (.tmp 43) (.const (.int .i64 0))), (some (42, true))⟩, ⟨(some 45), (.pick (.tmp 42) (.tmp 44) (.const (.bool false))), none⟩, ⟨(some 46), (.mv (.tmp 45)), none⟩, ⟨(some 47), (.mv (.tmp 2)), (some (46, true))⟩, ⟨(some 48), (.call 55 [(.tmp 47)]), (some (46, true))⟩, ⟨(some 49), (.cmp .eql (.tmp 48) (.const (.int .i64 21))), (some (46, true))⟩, ⟨(some 50), (.pick (.tmp 46) (.tmp 49) (.const (.bool false))), none⟩, ⟨(some 0), (.mv (.tmp 50)), none⟩]) .ret))))))))⟩ := by kernel_rfl

/-- allotment/allotmentlaw13.empties -/
theorem tr46 : trF Try.prog pures Try.f46 = some
  ⟨226, [(.t 8)],
    (.seq (.reg [⟨(some 8), (.mv (.const (.bool false))), none⟩])
    (.seq (.seq
    (.reg [⟨(some 26), (.mv (.tmp 0)), none⟩, ⟨(some 27), (.len (.tmp 26)), none⟩, ⟨(some 28), (.cmp .eql (.tmp 27) (.const (.int .i64 0))), none⟩, ⟨(some 29), (.mv (.tmp 28)), none⟩, ⟨(some 30), (.mv (.tmp 0)), (some (29, false))⟩, ⟨(some 31), (.len (.tmp 30)), (some (29, false))⟩, ⟨(some 32), (.cmp .gtr (.tmp 31) (.const (.int .i64 8))), (some (29, false))⟩, ⟨(some 33), (.pick (.tmp 29) (.const (.bool true)) (.tmp 32)), none⟩])
    (.cond (.tmp 33)
    (.seq (.reg [⟨(some 34), (.call 45 []), none⟩, ⟨(some 8), (.mv (.tmp 34)), none⟩]) .ret) .skip))
    (.seq (.reg [⟨(some 35), (.mv (.tmp 0)), none⟩, ⟨(some 36), (.len (.tmp 35)), none⟩, ⟨(some 37), (.bld #[(.int .i64 0), (.int .i64 0), (.int .i64 0)] [(0, (1, (.tmp 36))), (1, (1, (.const (.int .i64 1))))]), none⟩, ⟨(some 9), (.alc 23 (.agg #[(.int .i64 0), (.int .i64 0), (.int .i64 0)])), none⟩, ⟨none, (.stn 3 (.tmp 9) (.tmp 37)), none⟩])
    (.seq (.reg [⟨(some 38), (.ldn 3 (.tmp 9)), none⟩, ⟨(some 39), (.call 47 [(.tmp 38)]), none⟩, ⟨(some 10), (.mv (.tmp 39)), none⟩])
    (.seq (.seq
    (.reg [⟨(some 11), (.mv (.const (.int .i64 0))), none⟩])
    (.block 0
    (.loop (.seq
    (.seq (.reg [⟨(some 40), (.mv (.tmp 11)), none⟩, ⟨(some 41), (.fad 0 (.tmp 9)), none⟩, ⟨(some 42), (.ld1 (.tmp 41)), none⟩, ⟨(some 43), (.cmp .lss (.tmp 40) (.tmp 42)), none⟩])
    (.cond (.tmp 43) .skip (.exit 0)))
    (.seq (.block 1
    (.seq (.reg [⟨(some 46), (.mv (.tmp 2)), none⟩, ⟨(some 47), (.ar .add (.tmp 46) (.const (.int .i64 1))), none⟩, ⟨(some 48), (.mv (.tmp 0)), none⟩, ⟨(some 49), (.mv (.tmp 11)), none⟩, ⟨(some 50), (.iad 1 (.tmp 48) (.tmp 49)), none⟩, ⟨(some 51), (.ld1 (.tmp 50)), none⟩, ⟨(some 52), (.cv .i64 (.tmp 51)), none⟩, ⟨(some 53), (.dv .rem (.tmp 52) (.const (.int .i64 3))), none⟩, ⟨(some 54), (.ar .add (.tmp 47) (.tmp 53)), none⟩, ⟨(some 55), (.dv .rem (.tmp 54) (.const (.int .i64 4))), none⟩, ⟨(some 12), (.mv (.tmp 55)), none⟩])
    (.seq (.reg [⟨(some 56), (.mv (.tmp 10)), none⟩, ⟨(some 57), (.ldn 3 (.tmp 9)), none⟩, ⟨(some 58), (.mv (.tmp 11)), none⟩, ⟨(some 59), (.pcall 40 [(.tmp 57), (.tmp 58)]), none⟩, ⟨(some 60), (.mv (.tmp 12)), none⟩, ⟨(some 61), (.bld #[(.int .i64 0), (.int .i64 0), (.int .i64 0)] [(0, (1, (.const (.int .i64 2)))), (1, (1, (.tmp 60)))]), none⟩, ⟨(some 62), (.pcall 59 [(.tmp 61)]), none⟩, ⟨(some 63), (.iad 1 (.tmp 56) (.tmp 59)), none⟩, ⟨none, (.st1 (.tmp 63) (.tmp 62)), none⟩])
    (.seq (.reg [⟨(some 13), (.mv (.const (.int .i64 0))), none⟩])
    (.block 2
    (.loop (.seq
    (.seq (.reg [⟨(some 64), (.mv (.tmp 13)), none⟩, ⟨(some 65), (.mv (.tmp 12)), none⟩, ⟨(some 66), (.pcall 56 [(.tmp 65)]), none⟩, ⟨(some 67), (.cmp .lss (.tmp 64) (.tmp 66)), none⟩])
    (.cond (.tmp 67) .skip (.exit 2)))
    (.seq (.block 3
    (.seq (.reg [⟨(some 70), (.mv (.tmp 12)), none⟩, ⟨(some 71), (.bld #[(.int .i64 0), (.int .i64 0)] [(0, (1, (.const (.int .i64 1)))), (1, (1, (.tmp 70)))]), none⟩, ⟨(some 14), (.alc 64 (.agg #[(.int .i64 0), (.int .i64 0)])), none⟩, ⟨none, (.stn 2 (.tmp 14) (.tmp 71)), none⟩])
    (.seq (.seq
    (.reg [⟨(some 72), (.mv (.tmp 13)), none⟩, ⟨(some 73), (.cmp .eql (.tmp 72) (.const (.int .i64 1))), none⟩, ⟨(some 74), (.mv (.tmp 73)), none⟩, ⟨(some 75), (.mv (.tmp 11)), (some (74, true))⟩, ⟨(some 76), (.mv (.tmp 1)), (some (74, true))⟩, ⟨(some 77), (.len (.tmp 76)), (some (74, true))⟩, ⟨(some 78), (.cmp .lss (.tmp 75) (.tmp 77)), (some (74, true))⟩, ⟨(some 79), (.pick (.tmp 74) (.tmp 78) (.const (.bool false))), none⟩, ⟨(some 80), (.mv (.tmp 79)), none⟩, ⟨(some 81), (.mv (.tmp 1)), (some (80, true))⟩, ⟨(some 82), (.mv (.tmp 11)), (some (80, true))⟩, ⟨(some 83), (.iad 1 (.tmp 81) (.tmp 82)), (some (80, true))⟩, ⟨(some 84), (.ld1 (.tmp 83)), (some (80, true))⟩, ⟨(some 85), (.pick (.tmp 80) (.tmp 84) (.const (.bool false))), none⟩])
    (.cond (.tmp 85)
    (.reg [⟨(some 86), (.fad 0 (.tmp 14)), none⟩, ⟨none, (.st1 (.tmp 86) (.const (.int .i64 3))), none⟩]) .skip))
    (.draw (.take ⟨(some 87), (.mv (.tmp 10)), none⟩ (.take ⟨(some 88), (.ldn 3 (.tmp 9)), none⟩ (.take ⟨(some 89), (.mv (.tmp 11)), none⟩ (.take ⟨(some 90), (.mv (.tmp 13)), none⟩ (.take ⟨(some 92), (.ldn 2 (.tmp 14)), none⟩ (.alt false ⟨(some 91), (.pcall 42 [(.tmp 88), (.tmp 89), (.tmp 90)]), none⟩ (.alt false ⟨(some 93), (.pcall 52 [(.tmp 92)]), none⟩ (.take ⟨(some 94), (.iad 1 (.tmp 87) (.tmp 91)), none⟩ (.alt true ⟨none, (.st1 (.tmp 94) (.tmp 93)), none⟩ .done .stop)) .stop) .stop))))))))))
    (.reg [⟨(some 68), (.mv (.tmp 13)), none⟩, ⟨(some 69), (.ar .add (.tmp 68) (.const (.int .i64 1))), none⟩, ⟨(some 13), (.mv (.tmp 69)), none⟩])))))))))
    (.reg [⟨(some 44), (.mv (.tmp 11)), none⟩, ⟨(some 45), (.ar .add (.tmp 44) (.const (.int .i64 1))), none⟩, ⟨(some 11), (.mv (.tmp 45)), none⟩]))))))
    (.seq (.reg [⟨(some 95), (.mv (.tmp 10)), none⟩, ⟨(some 96), (.call 16 [(.tmp 95)]), none⟩, ⟨(some 15), (.mv (.tmp 96)), none⟩])
    (.seq (.draw (.take ⟨(some 97), (.ldn 3 (.tmp 9)), none⟩ (.take ⟨(some 98), (.mv (.tmp 2)), none⟩ (.take ⟨(some 99), (.mv (.tmp 3)), none⟩ (.take ⟨(some 100), (.fad 0 (.tmp 9)), none⟩ (.take ⟨(some 101), (.ld1 (.tmp 100)), none⟩ (.take ⟨(some 102), (.dv .rem (.tmp 99) (.tmp 101)), none⟩ (.alt false ⟨(some 103), (.call 48 [(.tmp 97), (.const (.int .i64 0)), (.tmp 98), (.tmp 102)]), none⟩ (.take ⟨(some 16), (.mv (.tmp 103)), none⟩ .done) .stop))))))))
    (.seq (.seq
    (.reg [⟨(some 104), (.mv (.tmp 15)), none⟩, ⟨(some 105), (.pnil false (.tmp 104)), none⟩, ⟨(some 106), (.mv (.tmp 105)), none⟩, ⟨(some 107), (.mv (.tmp 16)), (some (106, false))⟩, ⟨(some 108), (.pnil false (.tmp 107)), (some (106, false))⟩, ⟨(some 109), (.pick (.tmp 106) (.const (.bool true)) (.tmp 108)), none⟩, ⟨(some 110), (.mv (.tmp 109)), none⟩, ⟨(some 111), (.call 45 []), (some (110, false))⟩, ⟨(some 112), (.nt (.tmp 111)), (some (110, false))⟩, ⟨(some 113), (.pick (.tmp 110) (.const (.bool true)) (.tmp 112)), none⟩])
    (.cond (.tmp 113)
    (.seq (.reg [⟨(some 8), (.mv (.const (.bool false))), none⟩]) .ret) .skip))
    (.seq (.seq
    (.reg [⟨(some 17), (.mv (.const (.int .i64 0))), none⟩])
    (.block 4
    (.loop (.seq
    (.seq (.reg [⟨(some 114), (.mv (.tmp 17)), none⟩, ⟨(some 115), (.cmp .lss (.tmp 114) (.const (.int .i64 1000))), none⟩])
    (.cond (.tmp 115) .skip (.exit 4)))
    (.seq (.block 5
    (.reg [⟨(some 118), (.mv (.tmp 16)), none⟩, ⟨(some 119), (.mv (.tmp 15)), none⟩, ⟨(some 120), (.call 49 [(.tmp 118), (.tmp 119)]), none⟩]))
    (.reg [⟨(some 116), (.mv (.tmp 17)), none⟩, ⟨(some 117), (.ar .add (.tmp 116) (.const (.int .i64 1))), none⟩, ⟨(some 17), (.mv (.tmp 117)), none⟩]))))))
    (.seq (.reg [⟨(some 18), (.mv (.const (.int .i64 (-1)))), none⟩])
    (.seq (.seq
    (.reg [⟨(some 121), (.fad 0 (.tmp 9)), none⟩, ⟨(some 122), (.ld1 (.tmp 121)), none⟩, ⟨(some 123), (.ar .sub (.tmp 122) (.const (.int .i64 1))), none⟩, ⟨(some 19), (.mv (.tmp 123)), none⟩])
    (.block 6
    (.loop (.seq
    (.seq (.reg [⟨(some 124), (.mv (.tmp 19)), none⟩, ⟨(some 125), (.cmp .geq (.tmp 124) (.const (.int .i64 0))), none⟩])
    (.cond (.tmp 125) .skip (.exit 6)))
    (.seq (.block 7
    (.seq (.reg [⟨(some 128), (.mv (.tmp 3)), none⟩, ⟨(some 129), (.fad 0 (.tmp 9)), none⟩, ⟨(some 130), (.ld1 (.tmp 129)), none⟩, ⟨(some 131), (.dv .rem (.tmp 128) (.tmp 130)), none⟩, ⟨(some 132), (.mv (.tmp 19)), none⟩, ⟨(some 133), (.ar .add (.tmp 131) (.tmp 132)), none⟩, ⟨(some 134), (.fad 0 (.tmp 9)), none⟩, ⟨(some 135), (.ld1 (.tmp 134)), none⟩, ⟨(some 136), (.dv .rem (.tmp 133) (.tmp 135)), none⟩, ⟨(some 20), (.mv (.tmp 136)), none⟩])
    (.seq (.reg [⟨(some 137), (.mv (.tmp 20)), none⟩, ⟨(some 138), (.mv (.tmp 1)), none⟩, ⟨(some 139), (.len (.tmp 138)), none⟩, ⟨(some 140), (.cmp .geq (.tmp 137) (.tmp 139)), none⟩, ⟨(some 141), (.mv (.tmp 140)), none⟩, ⟨(some 142), (.mv (.tmp 1)), (some (141, false))⟩, ⟨(some 143), (.mv (.tmp 20)), (some (141, false))⟩, ⟨(some 144), (.iad 1 (.tmp 142) (.tmp 143)), (some (141, false))⟩, ⟨(some 145), (.ld1 (.tmp 144)), (some (141, false))⟩, ⟨(some 146), (.nt (.tmp 145)), (some (141, false))⟩, ⟨(some 147), (.pick (.tmp 141) (.const (.bool true)) (.tmp 146)), none⟩])
    (.cond (.tmp 147)
    (.reg [⟨(some 148), (.mv (.tmp 20)), none⟩, ⟨(some 18), (.mv (.tmp 148)), none⟩]) .skip))))
    (.reg [⟨(some 126), (.mv (.tmp 19)), none⟩, ⟨(some 127), (.ar .sub (.tmp 126) (.const (.int .i64 1))), none⟩, ⟨(some 19), (.mv (.tmp 127)), none⟩]))))))
    (.seq (.reg [⟨(some 150), (.mv (.tmp 16)), none⟩, ⟨(some 151), (.call 50 [(.tmp 150)]), none⟩, ⟨(some 149), (.mv (.tmp 151)), none⟩, ⟨(some 152), (.ext 0 (.tmp 149)), none⟩, ⟨(some 153), (.ext 1 (.tmp 149)), none⟩, ⟨(some 154), (.ext 2 (.tmp 149)), none⟩, ⟨(some 21), (.mv (.tmp 152)), none⟩, ⟨(some 22), (.mv (.tmp 153)), none⟩, ⟨(some 23), (.mv (.tmp 154)), none⟩])
    (.seq (.seq
    (.reg [⟨(some 155), (.mv (.tmp 16)), none⟩, ⟨(some 156), (.call 51 [(.tmp 155)]), none⟩, ⟨(some 157), (.nt (.tmp 156)), none⟩, ⟨(some 158), (.mv (.tmp 157)), none⟩, ⟨(some 159), (.mv (.tmp 23)), (some (158, false))⟩, ⟨(some 160), (.mv (.tmp 18)), (some (158, false))⟩, ⟨(some 161), (.cmp .geq (.tmp 160) (.const (.int .i64 0))), (some (158, false))⟩, ⟨(some 162), (.beq true (.tmp 159) (.tmp 161)), (some (158, false))⟩, ⟨(some 163), (.pick (.tmp 158) (.const (.bool true)) (.tmp 162)), none⟩])
    (.cond (.tmp 163)
    (.seq (.reg [⟨(some 8), (.mv (.const (.bool false))), none⟩]) .ret) .skip))
    (.seq (.seq
    (.reg [⟨(some 24), (.mv (.const (.int .i64 0))), none⟩])
    (.block 8
    (.loop (.seq
    (.seq (.reg [⟨(some 164), (.mv (.tmp 24)), none⟩, ⟨(some 165), (.mv (.tmp 10)), none⟩, ⟨(some 166), (.len (.tmp 165)), none⟩, ⟨(some 167), (.cmp .lss (.tmp 164) (.tmp 166)), none⟩])
    (.cond (.tmp 167) .skip (.exit 8)))
    (.seq (.block 9
    (.seq (.reg [⟨(some 170), (.mv (.tmp 23)), none⟩, ⟨(some 171), (.mv (.tmp 170)), none⟩, ⟨(some 172), (.mv (.tmp 24)), (some (171, true))⟩, ⟨(some 173), (.ldn 3 (.tmp 9)), (some (171, true))⟩, ⟨(some 174), (.mv (.tmp 18)), (some (171, true))⟩, ⟨(some 175), (.pcall 40 [(.tmp 173), (.tmp 174)]), (some (171, true))⟩, ⟨(some 176), (.cmp .eql (.tmp 172) (.tmp 175)), (some (171, true))⟩, ⟨(some 177), (.mv (.tmp 176)), (some (171, true))⟩, ⟨(some 178), (.mv (.tmp 24)), (some (177, false))⟩, ⟨(some 179), (.ldn 3 (.tmp 9)), (some (177, false))⟩, ⟨(some 180), (.mv (.tmp 18)), (some (177, false))⟩, ⟨(some 181), (.pcall 42 [(.tmp 179), (.tmp 180), (.const (.int .i64 0))]), (some (177, false))⟩, ⟨(some 182), (.cmp .geq (.tmp 178) (.tmp 181)), (some (177, false))⟩, ⟨(some 183), (.mv (.tmp 182)), (some (177, false))⟩, ⟨(some 184), (.mv (.tmp 24)), (some (183, true))⟩, ⟨(some 185), (.ldn 3 (.tmp 9)), (some (183, true))⟩, ⟨(some 186), (.mv (.tmp 18)), (some (183, true))⟩, ⟨(some 187), (.pcall 42 [(.tmp 185), (.tmp 186), (.const (.int .i64 15))]), (some (183, true))⟩, ⟨(some 188), (.cmp .leq (.tmp 184) (.tmp 187)), (some (183, true))⟩, ⟨(some 189), (.pick (.tmp 183) (.tmp 188) (.const (.bool false))), (some (177, false))⟩, ⟨(some 190), (.pick (.tmp 177) (.const (.bool true)) (.tmp 189)), (some (171, true))⟩, ⟨(some 191), (.pick (.tmp 171) (.tmp 190) (.const (.bool false))), none⟩, ⟨(some 25), (.mv (.tmp 191)), none⟩])
    (.seq (.draw (.take ⟨(some 192), (.mv (.tmp 25)), none⟩ (.take ⟨(some 193), (.nt (.tmp 192)), none⟩ (.take ⟨(some 194), (.mv (.tmp 193)), none⟩ (.take ⟨(some 195), (.mv (.tmp 15)), (some (194, true))⟩ (.take ⟨(some 196), (.mv (.tmp 24)), (some (194, true))⟩ (.take ⟨(some 198), (.mv (.tmp 10)), (some (194, true))⟩ (.take ⟨(some 199), (.mv (.tmp 24)), (some (194, true))⟩ (.take ⟨(some 200), (.iad 1 (.tmp 198) (.tmp 199)), (some (194, true))⟩ (.take ⟨(some 201), (.ld1 (.tmp 200)), (some (194, true))⟩ (.alt false ⟨(some 197), (.call 36 [(.tmp 195), (.tmp 196)]), (some (194, true))⟩ (.take ⟨(some 202), (.cmp .neq (.tmp 197) (.tmp 201)), (some (194, true))⟩ (.take ⟨(some 203), (.pick (.tmp 194) (.tmp 202) (.const (.bool false))), none⟩ .done)) .stop)))))))))))
    (.cond (.tmp 203)
    (.seq (.reg [⟨(some 8), (.mv (.const (.bool false))), none⟩]) .ret) .skip))))
    (.reg [⟨(some 168), (.mv (.tmp 24)), none⟩, ⟨(some 169), (.ar .add (.tmp 168) (.const (.int .i64 1))), none⟩, ⟨(some 24), (.mv (.tmp 169)), none⟩]))))))
    (.seq (.reg [⟨(some 204), (.mv (.tmp 23)), none⟩, ⟨(some 205), (.nt (.tmp 204)), none⟩, ⟨(some 206), (.mv (.tmp 205)), none⟩, ⟨(some 207), (.mv (.tmp 21)), (some (206, false))⟩, ⟨(some 208), (.mv (.tmp 18)), (some (206, false))⟩, ⟨(some 209), (.cmp .eql (.tmp 207) (.tmp 208)), (some (206, false))⟩, ⟨(some 210), (.mv (.tmp 209)), (some (206, false))⟩, ⟨(some 211), (.mv (.tmp 22)), (some (210, true))⟩, ⟨(some 212), (.cmp .eql (.tmp 211) (.const (.int .i64 0))), (some (210, true))⟩, ⟨(some 213), (.pick (.tmp 210) (.tmp 212) (.const (.bool false))), (some (206, false))⟩, ⟨(some 214), (.mv (.tmp 213)), (some (206, false))⟩, ⟨(some 215), (.mv (.tmp 15)), (some (214, true))⟩, ⟨(some 216), (.ldn 3 (.tmp 9)), (some (214, true))⟩, ⟨(some 217), (.mv (.tmp 21)), (some (214, true))⟩, ⟨(some 218), (.pcall 40 [(.tmp 216), (.tmp 217)]), (some (214, true))⟩, ⟨(some 219), (.call 36 [(.tmp 215), (.tmp 218)]), (some (214, true))⟩, ⟨(some 220), (.mv (.tmp 2)), (some (214, true))⟩, ⟨(some 221), (.bld #[(.int .i64 0), (.int .i64 0), (.int .i64 0)] [(0, (1, (.const (.int .i64 2)))), (1, (1, (.tmp 220)))]), (some (214, true))⟩, ⟨(some 222), (.pcall 59 [(.tmp 221)]), (some (214, true))⟩, ⟨(some 223), (.cmp .eql (.tmp 219) (.tmp 222)), (some (214, true))⟩, ⟨(some 224), (.pick (.tmp 214) (.tmp 223) (.const (.bool false))), (some (206, false))⟩, ⟨(some 225), (.pick (.tmp 206) (.const (.bool true)) (.tmp 224)), none⟩, ⟨(some 8), (.mv (.tmp 225)), none⟩]) .ret)))))))))))))))⟩ := by kernel_rfl

/-- allotment/allotmentlaw13.Blank -/
theorem tr47 : trF Try.prog pures Try.f47 = some
  ⟨6, [(.t 2)],
    (.seq (.reg [⟨(some 1), (.box 23 (.tmp 0)), none⟩, ⟨(some 2), (.mv (.const (.slice none 0 0))), none⟩])
    (.seq (.reg [⟨(some 3), (.ldn 3 (.tmp 1)), none⟩, ⟨(some 4), (.pcall 58 [(.tmp 3)]), none⟩, ⟨(some 5), (.mks 46 8 (.int .u64 0) (.tmp 4) (.tmp 4)), none⟩, ⟨(some 2), (.mv (.tmp 5)), none⟩]) .ret))⟩ := by kernel_rfl

/-- allotment/allotmentlaw13.SeekEmpties -/
theorem tr7 : trF Try.prog pures Try.f7 = some
  ⟨19, [(.t 6)],
    (.seq (.reg [⟨(some 5), (.box 68 (.tmp 2)), none⟩, ⟨(some 6), (.mv (.const (.bool false))), none⟩])
    (.seq (.seq
    (.reg [⟨(some 7), (.call 45 []), none⟩, ⟨(some 8), (.nt (.tmp 7)), none⟩])
    (.cond (.tmp 8)
    (.seq (.reg [⟨(some 6), (.mv (.const (.bool false))), none⟩]) .ret) .skip))
    (.seq (.reg [⟨(some 9), (.mv (.tmp 0)), none⟩, ⟨(some 10), (.mv (.tmp 1)), none⟩, ⟨(some 11), (.iadA 2 1 (.tmp 5) (.const (.int .i64 0))), none⟩, ⟨(some 12), (.ld1 (.tmp 11)), none⟩, ⟨(some 13), (.cv .i64 (.tmp 12)), none⟩, ⟨(some 14), (.dv .rem (.tmp 13) (.const (.int .i64 4))), none⟩, ⟨(some 15), (.iadA 2 1 (.tmp 5) (.const (.int .i64 1))), none⟩, ⟨(some 16), (.ld1 (.tmp 15)), none⟩, ⟨(some 17), (.cv .i64 (.tmp 16)), none⟩, ⟨(some 18), (.call 46 [(.tmp 9), (.tmp 10), (.tmp 14), (.tmp 17)]), none⟩, ⟨(some 6), (.mv (.tmp 18)), none⟩]) .ret)))⟩ := by kernel_rfl

/-- allotment/allotmentlaw13.SeekMany -/
theorem tr8 : trF Try.prog pures Try.f8 = some
  ⟨206, [(.t 6)],
    (.seq (.reg [⟨(some 6), (.mv (.const (.bool false))), none⟩])
    (.seq (.seq
    (.reg [⟨(some 24), (.call 45 []), none⟩, ⟨(some 25), (.nt (.tmp 24)), none⟩])
    (.cond (.tmp 25)
    (.seq (.reg [⟨(some 6), (.mv (.const (.bool false))), none⟩]) .ret) .skip))
    (.seq (.reg [⟨(some 26), (.mv (.tmp 1)), none⟩, ⟨(some 27), (.len (.tmp 26)), none⟩, ⟨(some 7), (.mv (.tmp 27)), none⟩])
    (.seq (.seq
    (.reg [⟨(some 28), (.mv (.tmp 7)), none⟩, ⟨(some 29), (.cmp .eql (.tmp 28) (.const (.int .i64 0))), none⟩, ⟨(some 30), (.mv (.tmp 29)), none⟩, ⟨(some 31), (.mv (.tmp 7)), (some (30, false))⟩, ⟨(some 32), (.cmp .gtr (.tmp 31) (.const (.int .i64 10))), (some (30, false))⟩, ⟨(some 33), (.pick (.tmp 30) (.const (.bool true)) (.tmp 32)), none⟩, ⟨(some 34), (.mv (.tmp 33)), none⟩, ⟨(some 35), (.mv (.tmp 2)), (some (34, false))⟩, ⟨(some 36), (.len (.tmp 35)), (some (34, false))⟩, ⟨(some 37), (.cmp .gtr (.tmp 36) (.const (.int .i64 3000))), (some (34, false))⟩, ⟨(some 38), (.pick (.tmp 34) (.const (.bool true)) (.tmp 37)), none⟩])
    (.cond (.tmp 38)
    (.seq (.reg [⟨(some 6), (.mv (.const (.bool true))), none⟩]) .ret) .skip))
    (.seq (.reg [⟨(some 39), (.mv (.tmp 0)), none⟩, ⟨(some 40), (.cv .i64 (.tmp 39)), none⟩, ⟨(some 41), (.dv .rem (.tmp 40) (.const (.int .i64 6))), none⟩, ⟨(some 42), (.ar .add (.const (.int .i64 1)) (.tmp 41)), none⟩, ⟨(some 43), (.mv (.tmp 7)), none⟩, ⟨(some 44), (.bld #[(.int .i64 0), (.int .i64 0), (.int .i64 0)] [(0, (1, (.tmp 42))), (1, (1, (.tmp 43)))]), none⟩, ⟨(some 8), (.alc 23 (.agg #[(.int .i64 0), (.int .i64 0), (.int .i64 0)])), none⟩, ⟨none, (.stn 3 (.tmp 8) (.tmp 44)), none⟩])
    (.seq (.reg [⟨(some 45), (.ldn 3 (.tmp 8)), none⟩, ⟨(some 46), (.call 47 [(.tmp 45)]), none⟩, ⟨(some 47), (.call 16 [(.tmp 46)]), none⟩, ⟨(some 9), (.mv (.tmp 47)), none⟩])
    (.seq (.seq
    (.reg [⟨(some 48), (.mv (.tmp 9)), none⟩, ⟨(some 49), (.pnil false (.tmp 48)), none⟩])
    (.cond (.tmp 49)
    (.seq (.reg [⟨(some 6), (.mv (.const (.bool false))), none⟩]) .ret) .skip))
    (.seq (.reg [⟨(some 10), (.mv (.const (.slice none 0 0))), none⟩])
    (.seq (.seq
    (.reg [⟨(some 11), (.mv (.const (.int .i64 0))), none⟩])
    (.block 0
    (.loop (.seq
    (.seq (.reg [⟨(some 50), (.mv (.tmp 11)), none⟩, ⟨(some 51), (.mv (.tmp 7)), none⟩, ⟨(some 52), (.cmp .lss (.tmp 50) (.tmp 51)), none⟩])
    (.cond (.tmp 52) .skip (.exit 0)))
    (.seq (.block 1
    (.draw (.take ⟨(some 55), (.mv (.tmp 10)), none⟩ (.take ⟨(some 56), (.ldn 3 (.tmp 8)), none⟩ (.take ⟨(some 57), (.mv (.tmp 11)), none⟩ (.take ⟨(some 58), (.mv (.tmp 1)), none⟩ (.take ⟨(some 59), (.mv (.tmp 11)), none⟩ (.take ⟨(some 60), (.iad 1 (.tmp 58) (.tmp 59)), none⟩ (.take ⟨(some 61), (.ld1 (.tmp 60)), none⟩ (.take ⟨(some 62), (.cv .i64 (.tmp 61)), none⟩ (.take ⟨(some 63), (.dv .rem (.tmp 62) (.const (.int .i64 4))), none⟩ (.take ⟨(some 64), (.mv (.tmp 1)), none⟩ (.take ⟨(some 65), (.mv (.tmp 11)), none⟩ (.take ⟨(some 66), (.iad 1 (.tmp 64) (.tmp 65)), none⟩ (.take ⟨(some 67), (.ld1 (.tmp 66)), none⟩ (.take ⟨(some 68), (.sh .shr (.tmp 67) (.const (.int .u64 2))), none⟩ (.take ⟨(some 69), (.cv .i64 (.tmp 68)), none⟩ (.take ⟨(some 70), (.fad 0 (.tmp 8)), none⟩ (.take ⟨(some 71), (.ld1 (.tmp 70)), none⟩ (.take ⟨(some 72), (.dv .rem (.tmp 69) (.tmp 71)), none⟩ (.alt false ⟨(some 73), (.call 48 [(.tmp 56), (.tmp 57), (.tmp 63), (.tmp 72)]), none⟩ (.alt false ⟨(some 74), (.bsl 73 #[(.pointer none)] 1 1 [(0, (.tmp 73))]), none⟩ (.alt false ⟨(some 75), (.app 73 1 8 #[(.pointer none)] (.tmp 55) (.tmp 74)), none⟩ (.take ⟨(some 10), (.mv (.tmp 75)), none⟩ .done) .stop) .stop) .stop)))))))))))))))))))))
    (.reg [⟨(some 53), (.mv (.tmp 11)), none⟩, ⟨(some 54), (.ar .add (.tmp 53) (.const (.int .i64 1))), none⟩, ⟨(some 11), (.mv (.tmp 54)), none⟩]))))))
    (.seq (.seq
    (.reg [⟨(some 12), (.mv (.const (.int .i64 0))), none⟩])
    (.block 2
    (.loop (.seq
    (.seq (.reg [⟨(some 76), (.mv (.tmp 12)), none⟩, ⟨(some 77), (.mv (.tmp 2)), none⟩, ⟨(some 78), (.len (.tmp 77)), none⟩, ⟨(some 79), (.cmp .lss (.tmp 76) (.tmp 78)), none⟩])
    (.cond (.tmp 79) .skip (.exit 2)))
    (.seq (.block 3
    (.reg [⟨(some 82), (.mv (.tmp 10)), none⟩, ⟨(some 83), (.mv (.tmp 2)), none⟩, ⟨(some 84), (.mv (.tmp 12)), none⟩, ⟨(some 85), (.iad 1 (.tmp 83) (.tmp 84)), none⟩, ⟨(some 86), (.ld1 (.tmp 85)), none⟩, ⟨(some 87), (.cv .i64 (.tmp 86)), none⟩, ⟨(some 88), (.mv (.tmp 7)), none⟩, ⟨(some 89), (.dv .rem (.tmp 87) (.tmp 88)), none⟩, ⟨(some 90), (.iad 1 (.tmp 82) (.tmp 89)), none⟩, ⟨(some 91), (.ld1 (.tmp 90)), none⟩, ⟨(some 92), (.mv (.tmp 9)), none⟩, ⟨(some 93), (.call 49 [(.tmp 91), (.tmp 92)]), none⟩]))
    (.reg [⟨(some 80), (.mv (.tmp 12)), none⟩, ⟨(some 81), (.ar .add (.tmp 80) (.const (.int .i64 1))), none⟩, ⟨(some 12), (.mv (.tmp 81)), none⟩]))))))
    (.seq (.reg [⟨(some 94), (.fad 0 (.tmp 8)), none⟩, ⟨(some 95), (.ld1 (.tmp 94)), none⟩, ⟨(some 96), (.ar .mul (.tmp 95) (.const (.int .i64 64))), none⟩, ⟨(some 97), (.mks 4 1 (.bool false) (.tmp 96) (.tmp 96)), none⟩, ⟨(some 13), (.mv (.tmp 97)), none⟩])
    (.seq (.reg [⟨(some 14), (.mv (.const (.int .i64 0))), none⟩])
    (.seq (.seq
    (.reg [⟨(some 15), (.mv (.const (.int .i64 0))), none⟩])
    (.block 4
    (.loop (.seq
    (.seq (.reg [⟨(some 98), (.mv (.tmp 15)), none⟩, ⟨(some 99), (.mv (.tmp 7)), none⟩, ⟨(some 100), (.cmp .lss (.tmp 98) (.tmp 99)), none⟩])
    (.cond (.tmp 100) .skip (.exit 4)))
    (.seq (.block 5
    (.seq (.seq
    (.reg [⟨(some 16), (.mv (.const (.int .i64 0))), none⟩])
    (.block 6
    (.loop (.seq
    (.seq (.reg [⟨(some 103), (.mv (.tmp 16)), none⟩, ⟨(some 104), (.fad 0 (.tmp 8)), none⟩, ⟨(some 105), (.ld1 (.tmp 104)), none⟩, ⟨(some 106), (.ar .mul (.const (.int .i64 80)) (.tmp 105)), none⟩, ⟨(some 107), (.ar .add (.tmp 106) (.const (.int .i64 80))), none⟩, ⟨(some 108), (.cmp .lss (.tmp 103) (.tmp 107)), none⟩])
    (.cond (.tmp 108) .skip (.exit 6)))
    (.seq (.block 7
    (.reg [⟨(some 111), (.mv (.tmp 10)), none⟩, ⟨(some 112), (.mv (.tmp 15)), none⟩, ⟨(some 113), (.iad 1 (.tmp 111) (.tmp 112)), none⟩, ⟨(some 114), (.ld1 (.tmp 113)), none⟩, ⟨(some 115), (.mv (.tmp 9)), none⟩, ⟨(some 116), (.call 49 [(.tmp 114), (.tmp 115)]), none⟩]))
    (.reg [⟨(some 109), (.mv (.tmp 16)), none⟩, ⟨(some 110), (.ar .add (.tmp 109) (.const (.int .i64 1))), none⟩, ⟨(some 16), (.mv (.tmp 110)), none⟩]))))))
    (.seq (.reg [⟨(some 118), (.mv (.tmp 10)), none⟩, ⟨(some 119), (.mv (.tmp 15)), none⟩, ⟨(some 120), (.iad 1 (.tmp 118) (.tmp 119)), none⟩, ⟨(some 121), (.ld1 (.tmp 120)), none⟩, ⟨(some 122), (.call 50 [(.tmp 121)]), none⟩, ⟨(some 117), (.mv (.tmp 122)), none⟩, ⟨(some 123), (.ext 0 (.tmp 117)), none⟩, ⟨(some 124), (.ext 1 (.tmp 117)), none⟩, ⟨(some 125), (.ext 2 (.tmp 117)), none⟩, ⟨(some 17), (.mv (.tmp 123)), none⟩, ⟨(some 18), (.mv (.tmp 124)), none⟩, ⟨(some 19), (.mv (.tmp 125)), none⟩])
    (.seq (.seq
    (.reg [⟨(some 126), (.mv (.tmp 10)), none⟩, ⟨(some 127), (.mv (.tmp 15)), none⟩, ⟨(some 128), (.iad 1 (.tmp 126) (.tmp 127)), none⟩, ⟨(some 129), (.ld1 (.tmp 128)), none⟩, ⟨(some 130), (.call 51 [(.tmp 129)]), none⟩, ⟨(some 131), (.nt (.tmp 130)), none⟩])
    (.cond (.tmp 131)
    (.seq (.reg [⟨(some 6), (.mv (.const (.bool false))), none⟩]) .ret) .skip))
    (.seq (.seq
    (.reg [⟨(some 132), (.mv (.tmp 19)), none⟩, ⟨(some 133), (.nt (.tmp 132)), none⟩])
    (.cond (.tmp 133) (.exit 5) .skip))
    (.seq (.reg [⟨(some 134), (.mv (.tmp 14)), none⟩, ⟨(some 135), (.ar .add (.tmp 134) (.const (.int .i64 1))), none⟩, ⟨(some 14), (.mv (.tmp 135)), none⟩])
    (.seq (.reg [⟨(some 136), (.mv (.tmp 1)), none⟩, ⟨(some 137), (.mv (.tmp 15)), none⟩, ⟨(some 138), (.iad 1 (.tmp 136) (.tmp 137)), none⟩, ⟨(some 139), (.ld1 (.tmp 138)), none⟩, ⟨(some 140), (.cv .i64 (.tmp 139)), none⟩, ⟨(some 141), (.dv .rem (.tmp 140) (.const (.int .i64 4))), none⟩, ⟨(some 20), (.mv (.tmp 141)), none⟩])
    (.seq (.draw (.take ⟨(some 143), (.ldn 3 (.tmp 8)), none⟩ (.take ⟨(some 144), (.mv (.tmp 17)), none⟩ (.take ⟨(some 145), (.mv (.tmp 9)), none⟩ (.take ⟨(some 146), (.ldn 3 (.tmp 8)), none⟩ (.take ⟨(some 147), (.mv (.tmp 17)), none⟩ (.alt false ⟨(some 148), (.pcall 40 [(.tmp 146), (.tmp 147)]), none⟩ (.alt false ⟨(some 149), (.call 36 [(.tmp 145), (.tmp 148)]), none⟩ (.alt false ⟨(some 150), (.pcall 41 [(.tmp 143), (.tmp 144), (.tmp 149)]), none⟩ (.take ⟨(some 142), (.mv (.tmp 150)), none⟩ (.take ⟨(some 151), (.ext 0 (.tmp 142)), none⟩ (.take ⟨(some 152), (.ext 1 (.tmp 142)), none⟩ (.alt false ⟨(some 21), (.alc 59 (.agg #[(.int .i64 0), (.int .i64 0), (.int .i64 0)])), none⟩ (.alt false ⟨none, (.stn 3 (.tmp 21) (.tmp 151)), none⟩ (.take ⟨(some 22), (.mv (.tmp 152)), none⟩ .done) .stop) .stop)))) (.alt false ⟨(some 21), (.alc 59 (.agg #[(.int .i64 0), (.int .i64 0), (.int .i64 0)])), none⟩ (.alt false ⟨(some 150), (.pcall 41 [(.tmp 143), (.tmp 144), (.tmp 149)]), none⟩ (.take ⟨(some 142), (.mv (.tmp 150)), none⟩ (.take ⟨(some 151), (.ext 0 (.tmp 142)), none⟩ (.take ⟨(some 152), (.ext 1 (.tmp 142)), none⟩ (.alt false ⟨none, (.stn 3 (.tmp 21) (.tmp 151)), none⟩ (.take ⟨(some 22), (.mv (.tmp 152)), none⟩ .done) .stop)))) .stop) .stop)) (.alt false ⟨(some 21), (.alc 59 (.agg #[(.int .i64 0), (.int .i64 0), (.int .i64 0)])), none⟩ (.alt false ⟨(some 149), (.call 36 [(.tmp 145), (.tmp 148)]), none⟩ (.alt false ⟨(some 150), (.pcall 41 [(.tmp 143), (.tmp 144), (.tmp 149)]), none⟩ (.take ⟨(some 142), (.mv (.tmp 150)), none⟩ (.take ⟨(some 151), (.ext 0 (.tmp 142)), none⟩ (.take ⟨(some 152), (.ext 1 (.tmp 142)), none⟩ (.alt false ⟨none, (.stn 3 (.tmp 21) (.tmp 151)), none⟩ (.take ⟨(some 22), (.mv (.tmp 152)), none⟩ .done) .stop)))) .stop) .stop) .stop)) (.alt false ⟨(some 21), (.alc 59 (.agg #[(.int .i64 0), (.int .i64 0), (.int .i64 0)])), none⟩ (.alt false ⟨(some 148), (.pcall 40 [(.tmp 146), (.tmp 147)]), none⟩ (.alt false ⟨(some 149), (.call 36 [(.tmp 145), (.tmp 148)]), none⟩ (.alt false ⟨(some 150), (.pcall 41 [(.tmp 143), (.tmp 144), (.tmp 149)]), none⟩ (.take ⟨(some 142), (.mv (.tmp 150)), none⟩ (.take ⟨(some 151), (.ext 0 (.tmp 142)), none⟩ (.take ⟨(some 152), (.ext 1 (.tmp 142)), none⟩ (.alt false ⟨none, (.stn 3 (.tmp 21) (.tmp 151)), none⟩ (.take ⟨(some 22), (.mv (.tmp 152)), none⟩ .done) .stop)))) .stop) .stop) .stop) .stop))))))))
    (.seq (.seq
    (.reg [⟨(some 153), (.fad 0 (.tmp 21)), none⟩, ⟨(some 154), (.ld1 (.tmp 153)), none⟩, ⟨(some 155), (.cmp .neq (.tmp 154) (.const (.int .i64 2))), none⟩, ⟨(some 156), (.mv (.tmp 155)), none⟩, ⟨(some 157), (.fad 1 (.tmp 21)), (some (156, false))⟩, ⟨(some 158), (.ld1 (.tmp 157)), (some (156, false))⟩, ⟨(some 159), (.mv (.tmp 20)), (some (156, false))⟩, ⟨(some 160), (.cmp .neq (.tmp 158) (.tmp 159)), (some (156, false))⟩, ⟨(some 161), (.pick (.tmp 156) (.const (.bool true)) (.tmp 160)), none⟩, ⟨(some 162), (.mv (.tmp 161)), none⟩, ⟨(some 163), (.mv (.tmp 9)), (some (162, false))⟩, ⟨(some 164), (.ldn 3 (.tmp 8)), (some (162, false))⟩, ⟨(some 165), (.mv (.tmp 17)), (some (162, false))⟩, ⟨(some 166), (.mv (.tmp 18)), (some (162, false))⟩, ⟨(some 167), (.pcall 42 [(.tmp 164), (.tmp 165), (.tmp 166)]), (some (162, false))⟩, ⟨(some 168), (.call 36 [(.tmp 163), (.tmp 167)]), (some (162, false))⟩, ⟨(some 169), (.mv (.tmp 15)), (some (162, false))⟩, ⟨(some 170), (.bld #[(.int .i64 0), (.int .i64 0)] [(0, (1, (.const (.int .i64 2)))), (1, (1, (.tmp 169)))]), (some (162, false))⟩, ⟨(some 171), (.pcall 52 [(.tmp 170)]), (some (162, false))⟩, ⟨(some 172), (.cmp .neq (.tmp 168) (.tmp 171)), (some (162, false))⟩, ⟨(some 173), (.pick (.tmp 162) (.const (.bool true)) (.tmp 172)), none⟩])
    (.cond (.tmp 173)
    (.seq (.reg [⟨(some 6), (.mv (.const (.bool false))), none⟩]) .ret) .skip))
    (.seq (.reg [⟨(some 174), (.mv (.tmp 17)), none⟩, ⟨(some 175), (.ar .mul (.tmp 174) (.const (.int .i64 64))), none⟩, ⟨(some 176), (.mv (.tmp 18)), none⟩, ⟨(some 177), (.mv (.tmp 20)), none⟩, ⟨(some 178), (.pcall 53 [(.tmp 177)]), none⟩, ⟨(some 179), (.ar .mul (.tmp 176) (.tmp 178)), none⟩, ⟨(some 180), (.ar .add (.tmp 175) (.tmp 179)), none⟩, ⟨(some 23), (.mv (.tmp 180)), none⟩])
    (.block 8
    (.loop (.seq
    (.seq (.reg [⟨(some 181), (.mv (.tmp 23)), none⟩, ⟨(some 182), (.mv (.tmp 17)), none⟩, ⟨(some 183), (.ar .mul (.tmp 182) (.const (.int .i64 64))), none⟩, ⟨(some 184), (.mv (.tmp 18)), none⟩, ⟨(some 185), (.ar .add (.tmp 184) (.const (.int .i64 1))), none⟩, ⟨(some 186), (.mv (.tmp 20)), none⟩, ⟨(some 187), (.pcall 53 [(.tmp 186)]), none⟩, ⟨(some 188), (.ar .mul (.tmp 185) (.tmp 187)), none⟩, ⟨(some 189), (.ar .add (.tmp 183) (.tmp 188)), none⟩, ⟨(some 190), (.cmp .lss (.tmp 181) (.tmp 189)), none⟩])
    (.cond (.tmp 190) .skip (.exit 8)))
    (.seq (.block 9
    (.seq (.seq
    (.reg [⟨(some 193), (.mv (.tmp 13)), none⟩, ⟨(some 194), (.mv (.tmp 23)), none⟩, ⟨(some 195), (.iad 1 (.tmp 193) (.tmp 194)), none⟩, ⟨(some 196), (.ld1 (.tmp 195)), none⟩])
    (.cond (.tmp 196)
    (.seq (.reg [⟨(some 6), (.mv (.const (.bool false))), none⟩]) .ret) .skip))
    (.reg [⟨(some 197), (.mv (.tmp 13)), none⟩, ⟨(some 198), (.mv (.tmp 23)), none⟩, ⟨(some 199), (.iad 1 (.tmp 197) (.tmp 198)), none⟩, ⟨none, (.st1 (.tmp 199) (.const (.bool true))), none⟩])))
    (.reg [⟨(some 191), (.mv (.tmp 23)), none⟩, ⟨(some 192), (.ar .add (.tmp 191) (.const (.int .i64 1))), none⟩, ⟨(some 23), (.mv (.tmp 192)), none⟩])))))))))))))))
    (.reg [⟨(some 101), (.mv (.tmp 15)), none⟩, ⟨(some 102), (.ar .add (.tmp 101) (.const (.int .i64 1))), none⟩, ⟨(some 15), (.mv (.tmp 102)), none⟩]))))))
    (.seq (.reg [⟨(some 200), (.mv (.tmp 14)), none⟩, ⟨(some 201), (.mv (.tmp 7)), none⟩, ⟨(some 202), (.fad 0 (.tmp 8)), none⟩, ⟨(some 203), (.ld1 (.tmp 202)), none⟩, ⟨(some 204), (.mn (.tmp 201) (.tmp 203)), none⟩, ⟨(some 205), (.cmp .geq (.tmp 200) (.tmp 204)), none⟩, ⟨(some 6), (.mv (.tmp 205)), none⟩]) .ret))))))))))))))⟩ := by kernel_rfl

/-- allotment/allotmentlaw13.SeekOwn -/
theorem tr9 : trF Try.prog pures Try.f9 = some
  ⟨156, [(.t 6)],
    (.seq (.reg [⟨(some 6), (.mv (.const (.bool false))), none⟩])
    (.seq (.seq
    (.reg [⟨(some 20), (.call 45 []), none⟩, ⟨(some 21), (.nt (.tmp 20)), none⟩])
    (.cond (.tmp 21)
    (.seq (.reg [⟨(some 6), (.mv (.const (.bool false))), none⟩]) .ret) .skip))
    (.seq (.reg [⟨(some 22), (.mv (.tmp 0)), none⟩, ⟨(some 23), (.len (.tmp 22)), none⟩, ⟨(some 24), (.mn (.tmp 23) (.const (.int .i64 8))), none⟩, ⟨(some 7), (.mv (.tmp 24)), none⟩])
    (.seq (.reg [⟨(some 25), (.mv (.tmp 1)), none⟩, ⟨(some 26), (.cv .i64 (.tmp 25)), none⟩, ⟨(some 27), (.dv .rem (.tmp 26) (.const (.int .i64 4))), none⟩, ⟨(some 8), (.mv (.tmp 27)), none⟩])
    (.seq (.reg [⟨(some 28), (.mv (.tmp 7)), none⟩, ⟨(some 29), (.bld #[(.int .i64 0), (.int .i64 0), (.int .i64 0)] [(0, (1, (.const (.int .i64 4)))), (1, (1, (.const (.int .i64 1)))), (2, (1, (.tmp 28)))]), none⟩, ⟨(some 9), (.alc 23 (.agg #[(.int .i64 0), (.int .i64 0), (.int .i64 0)])), none⟩, ⟨none, (.stn 3 (.tmp 9) (.tmp 29)), none⟩])
    (.seq (.reg [⟨(some 30), (.ldn 3 (.tmp 9)), none⟩, ⟨(some 31), (.call 47 [(.tmp 30)]), none⟩, ⟨(some 10), (.mv (.tmp 31)), none⟩])
    (.seq (.reg [⟨(some 11), (.mv (.const (.int .i64 (-1)))), none⟩])
    (.seq (.seq
    (.reg [⟨(some 32), (.mv (.tmp 7)), none⟩, ⟨(some 33), (.ar .sub (.tmp 32) (.const (.int .i64 1))), none⟩, ⟨(some 12), (.mv (.tmp 33)), none⟩])
    (.block 0
    (.loop (.seq
    (.seq (.reg [⟨(some 34), (.mv (.tmp 12)), none⟩, ⟨(some 35), (.cmp .geq (.tmp 34) (.const (.int .i64 0))), none⟩])
    (.cond (.tmp 35) .skip (.exit 0)))
    (.seq (.block 1
    (.seq (.reg [⟨(some 38), (.mv (.tmp 0)), none⟩, ⟨(some 39), (.mv (.tmp 12)), none⟩, ⟨(some 40), (.iad 1 (.tmp 38) (.tmp 39)), none⟩, ⟨(some 41), (.ld1 (.tmp 40)), none⟩, ⟨(some 42), (.cv .i64 (.tmp 41)), none⟩, ⟨(some 43), (.dv .rem (.tmp 42) (.const (.int .i64 5))), none⟩, ⟨(some 13), (.mv (.tmp 43)), none⟩])
    (.seq (.seq
    (.reg [⟨(some 44), (.mv (.tmp 13)), none⟩, ⟨(some 45), (.cmp .lss (.tmp 44) (.const (.int .i64 4))), none⟩])
    (.cond (.tmp 45)
    (.draw (.take ⟨(some 46), (.mv (.tmp 10)), none⟩ (.take ⟨(some 47), (.ldn 3 (.tmp 9)), none⟩ (.take ⟨(some 48), (.mv (.tmp 12)), none⟩ (.take ⟨(some 50), (.mv (.tmp 12)), none⟩ (.take ⟨(some 51), (.dv .rem (.tmp 50) (.const (.int .i64 4))), none⟩ (.take ⟨(some 52), (.mv (.tmp 0)), none⟩ (.take ⟨(some 53), (.mv (.tmp 12)), none⟩ (.take ⟨(some 54), (.iad 1 (.tmp 52) (.tmp 53)), none⟩ (.take ⟨(some 55), (.ld1 (.tmp 54)), none⟩ (.take ⟨(some 56), (.sh .shr (.tmp 55) (.const (.int .u64 6))), none⟩ (.take ⟨(some 57), (.cv .i64 (.tmp 56)), none⟩ (.take ⟨(some 58), (.dv .rem (.tmp 57) (.const (.int .i64 2))), none⟩ (.take ⟨(some 59), (.mv (.tmp 13)), none⟩ (.take ⟨(some 60), (.bld #[(.int .i64 0), (.int .i64 0), (.int .i64 0)] [(0, (1, (.tmp 51))), (1, (1, (.tmp 58))), (2, (1, (.tmp 59)))]), none⟩ (.alt false ⟨(some 49), (.pcall 44 [(.tmp 47), (.const (.int .i64 0)), (.tmp 48)]), none⟩ (.alt false ⟨(some 61), (.pcall 54 [(.tmp 60)]), none⟩ (.take ⟨(some 62), (.iad 1 (.tmp 46) (.tmp 49)), none⟩ (.alt true ⟨none, (.st1 (.tmp 62) (.tmp 61)), none⟩ .done .stop)) .stop) .stop)))))))))))))))) .skip))
    (.seq (.reg [⟨(some 63), (.mv (.tmp 13)), none⟩, ⟨(some 64), (.mv (.tmp 8)), none⟩, ⟨(some 65), (.cmp .eql (.tmp 63) (.tmp 64)), none⟩])
    (.cond (.tmp 65)
    (.reg [⟨(some 66), (.mv (.tmp 12)), none⟩, ⟨(some 11), (.mv (.tmp 66)), none⟩]) .skip)))))
    (.reg [⟨(some 36), (.mv (.tmp 12)), none⟩, ⟨(some 37), (.ar .sub (.tmp 36) (.const (.int .i64 1))), none⟩, ⟨(some 12), (.mv (.tmp 37)), none⟩]))))))
    (.seq (.reg [⟨(some 67), (.mv (.tmp 10)), none⟩, ⟨(some 68), (.call 16 [(.tmp 67)]), none⟩, ⟨(some 14), (.mv (.tmp 68)), none⟩])
    (.seq (.reg [⟨(some 69), (.ldn 3 (.tmp 9)), none⟩, ⟨(some 70), (.mv (.tmp 8)), none⟩, ⟨(some 71), (.mv (.tmp 2)), none⟩, ⟨(some 72), (.cv .i64 (.tmp 71)), none⟩, ⟨(some 73), (.dv .rem (.tmp 72) (.const (.int .i64 4))), none⟩, ⟨(some 74), (.call 48 [(.tmp 69), (.const (.int .i64 0)), (.tmp 70), (.tmp 73)]), none⟩, ⟨(some 15), (.mv (.tmp 74)), none⟩])
    (.seq (.seq
    (.reg [⟨(some 75), (.mv (.tmp 14)), none⟩, ⟨(some 76), (.pnil false (.tmp 75)), none⟩, ⟨(some 77), (.mv (.tmp 76)), none⟩, ⟨(some 78), (.mv (.tmp 15)), (some (77, false))⟩, ⟨(some 79), (.pnil false (.tmp 78)), (some (77, false))⟩, ⟨(some 80), (.pick (.tmp 77) (.const (.bool true)) (.tmp 79)), none⟩])
    (.cond (.tmp 80)
    (.seq (.reg [⟨(some 6), (.mv (.const (.bool false))), none⟩]) .ret) .skip))
    (.seq (.seq
    (.reg [⟨(some 16), (.mv (.const (.int .i64 0))), none⟩])
    (.block 2
    (.loop (.seq
    (.seq (.reg [⟨(some 81), (.mv (.tmp 16)), none⟩, ⟨(some 82), (.cmp .lss (.tmp 81) (.const (.int .i64 500))), none⟩])
    (.cond (.tmp 82) .skip (.exit 2)))
    (.seq (.block 3
    (.reg [⟨(some 85), (.mv (.tmp 15)), none⟩, ⟨(some 86), (.mv (.tmp 14)), none⟩, ⟨(some 87), (.call 49 [(.tmp 85), (.tmp 86)]), none⟩]))
    (.reg [⟨(some 83), (.mv (.tmp 16)), none⟩, ⟨(some 84), (.ar .add (.tmp 83) (.const (.int .i64 1))), none⟩, ⟨(some 16), (.mv (.tmp 84)), none⟩]))))))
    (.seq (.reg [⟨(some 89), (.mv (.tmp 15)), none⟩, ⟨(some 90), (.call 50 [(.tmp 89)]), none⟩, ⟨(some 88), (.mv (.tmp 90)), none⟩, ⟨(some 91), (.ext 0 (.tmp 88)), none⟩, ⟨(some 92), (.ext 1 (.tmp 88)), none⟩, ⟨(some 93), (.ext 2 (.tmp 88)), none⟩, ⟨(some 17), (.mv (.tmp 91)), none⟩, ⟨(some 18), (.mv (.tmp 92)), none⟩, ⟨(some 19), (.mv (.tmp 93)), none⟩])
    (.seq (.seq
    (.reg [⟨(some 94), (.mv (.tmp 15)), none⟩, ⟨(some 95), (.call 51 [(.tmp 94)]), none⟩, ⟨(some 96), (.nt (.tmp 95)), none⟩, ⟨(some 97), (.mv (.tmp 96)), none⟩, ⟨(some 98), (.mv (.tmp 19)), (some (97, false))⟩, ⟨(some 99), (.nt (.tmp 98)), (some (97, false))⟩, ⟨(some 100), (.pick (.tmp 97) (.const (.bool true)) (.tmp 99)), none⟩])
    (.cond (.tmp 100)
    (.seq (.reg [⟨(some 6), (.mv (.const (.bool false))), none⟩]) .ret) .skip))
    (.seq (.seq
    (.reg [⟨(some 101), (.mv (.tmp 11)), none⟩, ⟨(some 102), (.cmp .lss (.tmp 101) (.const (.int .i64 0))), none⟩])
    (.cond (.tmp 102)
    (.seq (.draw (.take ⟨(some 103), (.mv (.tmp 17)), none⟩ (.take ⟨(some 104), (.mv (.tmp 2)), none⟩ (.take ⟨(some 105), (.cv .i64 (.tmp 104)), none⟩ (.take ⟨(some 106), (.dv .rem (.tmp 105) (.const (.int .i64 4))), none⟩ (.take ⟨(some 107), (.cmp .eql (.tmp 103) (.tmp 106)), none⟩ (.take ⟨(some 108), (.mv (.tmp 107)), none⟩ (.take ⟨(some 109), (.mv (.tmp 18)), (some (108, true))⟩ (.take ⟨(some 110), (.cmp .eql (.tmp 109) (.const (.int .i64 0))), (some (108, true))⟩ (.take ⟨(some 111), (.pick (.tmp 108) (.tmp 110) (.const (.bool false))), none⟩ (.take ⟨(some 112), (.mv (.tmp 111)), none⟩ (.take ⟨(some 113), (.mv (.tmp 14)), (some (112, true))⟩ (.take ⟨(some 115), (.mv (.tmp 7)), (some (112, true))⟩ (.take ⟨(some 116), (.fad 0 (.tmp 9)), (some (112, true))⟩ (.take ⟨(some 117), (.ld1 (.tmp 116)), (some (112, true))⟩ (.take ⟨(some 118), (.ar .add (.tmp 115) (.tmp 117)), (some (112, true))⟩ (.take ⟨(some 119), (.ar .add (.tmp 118) (.const (.int .i64 2))), (some (112, true))⟩ (.take ⟨(some 120), (.ar .add (.tmp 119) (.const (.int .i64 16))), (some (112, true))⟩ (.take ⟨(some 121), (.mv (.tmp 8)), (some (112, true))⟩ (.alt false ⟨(some 114), (.call 55 [(.tmp 113)]), (some (112, true))⟩ (.alt false ⟨(some 122), (.pcall 56 [(.tmp 121)]), (some (112, true))⟩ (.take ⟨(some 123), (.ar .add (.tmp 120) (.tmp 122)), (some (112, true))⟩ (.take ⟨(some 124), (.cmp .eql (.tmp 114) (.tmp 123)), (some (112, true))⟩ (.take ⟨(some 125), (.pick (.tmp 112) (.tmp 124) (.const (.bool false))), none⟩ (.take ⟨(some 6), (.mv (.tmp 125)), none⟩ .done)))) .stop) .stop)))))))))))))))))))) .ret) .skip))
    (.seq (.reg [⟨(some 126), (.mv (.tmp 17)), none⟩, ⟨(some 127), (.mv (.tmp 11)), none⟩, ⟨(some 128), (.dv .rem (.tmp 127) (.const (.int .i64 4))), none⟩, ⟨(some 129), (.cmp .eql (.tmp 126) (.tmp 128)), none⟩, ⟨(some 130), (.mv (.tmp 129)), none⟩, ⟨(some 131), (.mv (.tmp 18)), (some (130, true))⟩, ⟨(some 132), (.mv (.tmp 0)), (some (130, true))⟩, ⟨(some 133), (.mv (.tmp 11)), (some (130, true))⟩, ⟨(some 134), (.iad 1 (.tmp 132) (.tmp 133)), (some (130, true))⟩, ⟨(some 135), (.ld1 (.tmp 134)), (some (130, true))⟩, ⟨(some 136), (.sh .shr (.tmp 135) (.const (.int .u64 6))), (some (130, true))⟩, ⟨(some 137), (.cv .i64 (.tmp 136)), (some (130, true))⟩, ⟨(some 138), (.dv .rem (.tmp 137) (.const (.int .i64 2))), (some (130, true))⟩, ⟨(some 139), (.cmp .eql (.tmp 131) (.tmp 138)), (some (130, true))⟩, ⟨(some 140), (.pick (.tmp 130) (.tmp 139) (.const (.bool false))), none⟩, ⟨(some 141), (.mv (.tmp 140)), none⟩, ⟨(some 142), (.mv (.tmp 14)), (some (141, true))⟩, ⟨(some 143), (.call 55 [(.tmp 142)]), (some (141, true))⟩, ⟨(some 144), (.mv (.tmp 11)), (some (141, true))⟩, ⟨(some 145), (.ar .add (.tmp 144) (.const (.int .i64 2))), (some (141, true))⟩, ⟨(some 146), (.cmp .eql (.tmp 143) (.tmp 145)), (some (141, true))⟩, ⟨(some 147), (.pick (.tmp 141) (.tmp 146) (.const (.bool false))), none⟩, ⟨(some 148), (.mv (.tmp 147)), none⟩, ⟨(some 149), (.mv (.tmp 14)), (some (148, true))⟩, ⟨(some 150), (.ldn 3 (.tmp 9)), (some (148, true))⟩, ⟨(some 151), (.mv (.tmp 11)), (some (148, true))⟩, ⟨(some 152), (.pcall 44 [(.tmp 150), (.const (.int .i64 0)), (.tmp 151)]), (some (148, true))⟩, ⟨(some 153), (.call 36 [(.tmp 149), (.tmp 152)]), (some (148, true))⟩, ⟨(some 154), (.cmp .eql (.tmp 153) (.const (.int .u64 0))), (some (148, true))⟩, ⟨(some 155), (.pick (.tmp 148) (.tmp 154) (.const (.bool false))), none⟩, ⟨(some 6), (.mv (.tmp 155)), none⟩]) .ret))))))))))))))))⟩ := by kernel_rfl

end Go.Proofs.Ytfopnendmcpglaa
