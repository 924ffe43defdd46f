/-
  The compact code of functions of this seat, as translated from the model: each translation holds by reckoning. Conditions: none.
-/
import Derived.Test.YtpdmeneigpipiaaCode
set_option maxRecDepth 100000
namespace Go.Proofs.Ytpdmeneigpipiaa
open Go Go.Ev

/-- allotment/allotmentlaw13.SeekMany -/
theorem tr3 : trF Try.prog pures Try.f3 = some
  ⟨206, [(.t 6)],
    (.seq (.reg [⟨(some 6), (.mv (.const (.bool false))), none⟩])
    (.seq (.seq
    (.reg [⟨(some 24), (.call 6 []), none⟩, ⟨(some 25), (.nt (.tmp 24)), none⟩])
    (.cond (.tmp 25)
    (.seq (.reg [⟨(some 6), (.mv (.const (.bool false))), none⟩]) .ret) .skip))
    (.seq (.reg [⟨(some 26), (.mv (.tmp 1)), none⟩, ⟨(some 27), (.len (.tmp 26)), none⟩, ⟨(some 7), (.mv (.tmp 27)), none⟩])
    (.seq (.seq
    (.reg [⟨(some 28), (.mv (.tmp 7)), none⟩, ⟨(some 29), (.cmp .eql (.tmp 28) (.const (.int .i64 0))), none⟩, ⟨(some 30), (.mv (.tmp 29)), none⟩, ⟨(some 31), (.mv (.tmp 7)), (some (30, false))⟩, ⟨(some 32), (.cmp .gtr (.tmp 31) (.const (.int .i64 10))), (some (30, false))⟩, ⟨(some 33), (.pick (.tmp 30) (.const (.bool true)) (.tmp 32)), none⟩, ⟨(some 34), (.mv (.tmp 33)), none⟩, ⟨(some 35), (.mv (.tmp 2)), (some (34, false))⟩, ⟨(some 36), (.len (.tmp 35)), (some (34, false))⟩, ⟨(some 37), (.cmp .gtr (.tmp 36) (.const (.int .i64 3000))), (some (34, false))⟩, ⟨(some 38), (.pick (.tmp 34) (.const (.bool true)) (.tmp 37)), none⟩])
    (.cond (.tmp 38)
    (.seq (.reg [⟨(some 6), (.mv (.const (.bool true))), none⟩]) .ret) .skip))
    (.seq (.reg [⟨(some 39), (.mv (.tmp 0)), none⟩, ⟨(some 40), (.cv .i64 (.tmp 39)), none⟩, ⟨(some 41), (.dv .rem (.tmp 40) (.const (.int .i64 6))), none⟩, ⟨(some 42), (.ar .add (.const (.int .i64 1)) (.tmp 41)), none⟩, ⟨(some 43), (.mv (.tmp 7)), none⟩, ⟨(some 44), (.bld #[(.int .i64 0), (.int .i64 0), (.int .i64 0)] [(0, (1, (.tmp 42))), (1, (1, (.tmp 43)))]), none⟩, ⟨(some 8), (.alc 25 (.agg #[(.int .i64 0), (.int .i64 0), (.int .i64 0)])), none⟩, ⟨none, (.stn 3 (.tmp 8) (.tmp 44)), none⟩])
    (.seq (.reg [⟨(some 45), (.ldn 3 (.tmp 8)), none⟩, ⟨(some 46), (.call 8 [(.tmp 45)]), none⟩, ⟨(some 47), (.call 7 [(.tmp 46)]), none⟩, ⟨(some 9), (.mv (.tmp 47)), none⟩])
    (.seq (.seq
    (.reg [⟨(some 48), (.mv (.tmp 9)), none⟩, ⟨(some 49), (.pnil false (.tmp 48)), none⟩])
    (.cond (.tmp 49)
    (.seq (.reg [⟨(some 6), (.mv (.const (.bool false))), none⟩]) .ret) .skip))
    (.seq (.reg [⟨(some 10), (.mv (.const (.slice none 0 0))), none⟩])
    (.seq (.seq
    (.reg [⟨(some 11), (.mv (.const (.int .i64 0))), none⟩])
    (.block 0
    (.loop (.seq
    (.seq (.reg [⟨(some 50), (.mv (.tmp 11)), none⟩, ⟨(some 51), (.mv (.tmp 7)), none⟩, ⟨(some 52), (.cmp .lss (.tmp 50) (.tmp 51)), none⟩])
    (.cond (.tmp 52) .skip (.exit 0)))
    (.seq (.block 1
    (.draw (.take ⟨(some 55), (.mv (.tmp 10)), none⟩ (.take ⟨(some 56), (.ldn 3 (.tmp 8)), none⟩ (.take ⟨(some 57), (.mv (.tmp 11)), none⟩ (.take ⟨(some 58), (.mv (.tmp 1)), none⟩ (.take ⟨(some 59), (.mv (.tmp 11)), none⟩ (.take ⟨(some 60), (.iad 1 (.tmp 58) (.tmp 59)), none⟩ (.take ⟨(some 61), (.ld1 (.tmp 60)), none⟩ (.take ⟨(some 62), (.cv .i64 (.tmp 61)), none⟩ (.take ⟨(some 63), (.dv .rem (.tmp 62) (.const (.int .i64 4))), none⟩ (.take ⟨(some 64), (.mv (.tmp 1)), none⟩ (.take ⟨(some 65), (.mv (.tmp 11)), none⟩ (.take ⟨(some 66), (.iad 1 (.tmp 64) (.tmp 65)), none⟩ (.take ⟨(some 67), (.ld1 (.tmp 66)), none⟩ (.take ⟨(some 68), (.sh .shr (.tmp 67) (.const (.int .u64 2))), none⟩ (.take ⟨(some 69), (.cv .i64 (.tmp 68)), none⟩ (.take ⟨(some 70), (.fad 0 (.tmp 8)), none⟩ (.take ⟨(some 71), (.ld1 (.tmp 70)), none⟩ (.take ⟨(some 72), (.dv .rem (.tmp 69) (.tmp 71)), none⟩ (.alt false ⟨(some 73), (.call 9 [(.tmp 56), (.tmp 57), (.tmp 63), (.tmp 72)]), none⟩ (.alt false ⟨(some 74), (.bsl 31 #[(.pointer none)] 1 1 [(0, (.tmp 73))]), none⟩ (.alt false ⟨(some 75), (.app 31 1 8 #[(.pointer none)] (.tmp 55) (.tmp 74)), none⟩ (.take ⟨(some 10), (.mv (.tmp 75)), none⟩ .done) .stop) .stop) .stop)))))))))))))))))))))
    (.reg [⟨(some 53), (.mv (.tmp 11)), none⟩, ⟨(some 54), (.ar .add (.tmp 53) (.const (.int .i64 1))), none⟩, ⟨(some 11), (.mv (.tmp 54)), none⟩]))))))
    (.seq (.seq
    (.reg [⟨(some 12), (.mv (.const (.int .i64 0))), none⟩])
    (.block 2
    (.loop (.seq
    (.seq (.reg [⟨(some 76), (.mv (.tmp 12)), none⟩, ⟨(some 77), (.mv (.tmp 2)), none⟩, ⟨(some 78), (.len (.tmp 77)), none⟩, ⟨(some 79), (.cmp .lss (.tmp 76) (.tmp 78)), none⟩])
    (.cond (.tmp 79) .skip (.exit 2)))
    (.seq (.block 3
    (.reg [⟨(some 82), (.mv (.tmp 10)), none⟩, ⟨(some 83), (.mv (.tmp 2)), none⟩, ⟨(some 84), (.mv (.tmp 12)), none⟩, ⟨(some 85), (.iad 1 (.tmp 83) (.tmp 84)), none⟩, ⟨(some 86), (.ld1 (.tmp 85)), none⟩, ⟨(some 87), (.cv .i64 (.tmp 86)), none⟩, ⟨(some 88), (.mv (.tmp 7)), none⟩, ⟨(some 89), (.dv .rem (.tmp 87) (.tmp 88)), none⟩, ⟨(some 90), (.iad 1 (.tmp 82) (.tmp 89)), none⟩, ⟨(some 91), (.ld1 (.tmp 90)), none⟩, ⟨(some 92), (.mv (.tmp 9)), none⟩, ⟨(some 93), (.call 10 [(.tmp 91), (.tmp 92)]), none⟩]))
    (.reg [⟨(some 80), (.mv (.tmp 12)), none⟩, ⟨(some 81), (.ar .add (.tmp 80) (.const (.int .i64 1))), none⟩, ⟨(some 12), (.mv (.tmp 81)), none⟩]))))))
    (.seq (.reg [⟨(some 94), (.fad 0 (.tmp 8)), none⟩, ⟨(some 95), (.ld1 (.tmp 94)), none⟩, ⟨(some 96), (.ar .mul (.tmp 95) (.const (.int .i64 64))), none⟩, ⟨(some 97), (.mks 4 1 (.bool false) (.tmp 96) (.tmp 96)), none⟩, ⟨(some 13), (.mv (.tmp 97)), none⟩])
    (.seq (.reg [⟨(some 14), (.mv (.const (.int .i64 0))), none⟩])
    (.seq (.seq
    (.reg [⟨(some 15), (.mv (.const (.int .i64 0))), none⟩])
    (.block 4
    (.loop (.seq
    (.seq (.reg [⟨(some 98), (.mv (.tmp 15)), none⟩, ⟨(some 99), (.mv (.tmp 7)), none⟩, ⟨(some 100), (.cmp .lss (.tmp 98) (.tmp 99)), none⟩])
    (.cond (.tmp 100) .skip (.exit 4)))
    (.seq (.block 5
    (.seq (.seq
    (.reg [⟨(some 16), (.mv (.const (.int .i64 0))), none⟩])
    (.block 6
    (.loop (.seq
    (.seq (.reg [⟨(some 103), (.mv (.tmp 16)), none⟩, ⟨(some 104), (.fad 0 (.tmp 8)), none⟩, ⟨(some 105), (.ld1 (.tmp 104)), none⟩, ⟨(some 106), (.ar .mul (.const (.int .i64 80)) (.tmp 105)), none⟩, ⟨(some 107), (.ar .add (.tmp 106) (.const (.int .i64 80))), none⟩, ⟨(some 108), (.cmp .lss (.tmp 103) (.tmp 107)), none⟩])
    (.cond (.tmp 108) .skip (.exit 6)))
    (.seq (.block 7
    (.reg [⟨(some 111), (.mv (.tmp 10)), none⟩, ⟨(some 112), (.mv (.tmp 15)), none⟩, ⟨(some 113), (.iad 1 (.tmp 111) (.tmp 112)), none⟩, ⟨(some 114), (.ld1 (.tmp 113)), none⟩, ⟨(some 115), (.mv (.tmp 9)), none⟩, ⟨(some 116), (.call 10 [(.tmp 114), (.tmp 115)]), none⟩]))
    (.reg [⟨(some 109), (.mv (.tmp 16)), none⟩, ⟨(some 110), (.ar .add (.tmp 109) (.const (.int .i64 1))), none⟩, ⟨(some 16), (.mv (.tmp 110)), none⟩]))))))
    (.seq (.reg [⟨(some 118), (.mv (.tmp 10)), none⟩, ⟨(some 119), (.mv (.tmp 15)), none⟩, ⟨(some 120), (.iad 1 (.tmp 118) (.tmp 119)), none⟩, ⟨(some 121), (.ld1 (.tmp 120)), none⟩, ⟨(some 122), (.call 11 [(.tmp 121)]), none⟩, ⟨(some 117), (.mv (.tmp 122)), none⟩, ⟨(some 123), (.ext 0 (.tmp 117)), none⟩, ⟨(some 124), (.ext 1 (.tmp 117)), none⟩, ⟨(some 125), (.ext 2 (.tmp 117)), none⟩, ⟨(some 17), (.mv (.tmp 123)), none⟩, ⟨(some 18), (.mv (.tmp 124)), none⟩, ⟨(some 19), (.mv (.tmp 125)), none⟩])
    (.seq (.seq
    (.reg [⟨(some 126), (.mv (.tmp 10)), none⟩, ⟨(some 127), (.mv (.tmp 15)), none⟩, ⟨(some 128), (.iad 1 (.tmp 126) (.tmp 127)), none⟩, ⟨(some 129), (.ld1 (.tmp 128)), none⟩, ⟨(some 130), (.call 12 [(.tmp 129)]), none⟩, ⟨(some 131), (.nt (.tmp 130)), none⟩])
    (.cond (.tmp 131)
    (.seq (.reg [⟨(some 6), (.mv (.const (.bool false))), none⟩]) .ret) .skip))
    (.seq (.seq
    (.reg [⟨(some 132), (.mv (.tmp 19)), none⟩, ⟨(some 133), (.nt (.tmp 132)), none⟩])
    (.cond (.tmp 133) (.exit 5) .skip))
    (.seq (.reg [⟨(some 134), (.mv (.tmp 14)), none⟩, ⟨(some 135), (.ar .add (.tmp 134) (.const (.int .i64 1))), none⟩, ⟨(some 14), (.mv (.tmp 135)), none⟩])
    (.seq (.reg [⟨(some 136), (.mv (.tmp 1)), none⟩, ⟨(some 137), (.mv (.tmp 15)), none⟩, ⟨(some 138), (.iad 1 (.tmp 136) (.tmp 137)), none⟩, ⟨(some 139), (.ld1 (.tmp 138)), none⟩, ⟨(some 140), (.cv .i64 (.tmp 139)), none⟩, ⟨(some 141), (.dv .rem (.tmp 140) (.const (.int .i64 4))), none⟩, ⟨(some 20), (.mv (.tmp 141)), none⟩])
    (.seq (.draw (.take ⟨(some 143), (.ldn 3 (.tmp 8)), none⟩ (.take ⟨(some 144), (.mv (.tmp 17)), none⟩ (.take ⟨(some 145), (.mv (.tmp 9)), none⟩ (.take ⟨(some 146), (.ldn 3 (.tmp 8)), none⟩ (.take ⟨(some 147), (.mv (.tmp 17)), none⟩ (.alt false ⟨(some 148), (.pcall 15 [(.tmp 146), (.tmp 147)]), none⟩ (.alt false ⟨(some 149), (.call 14 [(.tmp 145), (.tmp 148)]), none⟩ (.alt false ⟨(some 150), (.pcall 13 [(.tmp 143), (.tmp 144), (.tmp 149)]), none⟩ (.take ⟨(some 142), (.mv (.tmp 150)), none⟩ (.take ⟨(some 151), (.ext 0 (.tmp 142)), none⟩ (.take ⟨(some 152), (.ext 1 (.tmp 142)), none⟩ (.alt false ⟨(some 21), (.alc 39 (.agg #[(.int .i64 0), (.int .i64 0), (.int .i64 0)])), none⟩ (.alt false ⟨none, (.stn 3 (.tmp 21) (.tmp 151)), none⟩ (.take ⟨(some 22), (.mv (.tmp 152)), none⟩ .done) .stop) .stop)))) (.alt false ⟨(some 21), (.alc 39 (.agg #[(.int .i64 0), (.int .i64 0), (.int .i64 0)])), none⟩ (.alt false ⟨(some 150), (.pcall 13 [(.tmp 143), (.tmp 144), (.tmp 149)]), none⟩ (.take ⟨(some 142), (.mv (.tmp 150)), none⟩ (.take ⟨(some 151), (.ext 0 (.tmp 142)), none⟩ (.take ⟨(some 152), (.ext 1 (.tmp 142)), none⟩ (.alt false ⟨none, (.stn 3 (.tmp 21) (.tmp 151)), none⟩ (.take ⟨(some 22), (.mv (.tmp 152)), none⟩ .done) .stop)))) .stop) .stop)) (.alt false ⟨(some 21), (.alc 39 (.agg #[(.int .i64 0), (.int .i64 0), (.int .i64 0)])), none⟩ (.alt false ⟨(some 149), (.call 14 [(.tmp 145), (.tmp 148)]), none⟩ (.alt false ⟨(some 150), (.pcall 13 [(.tmp 143), (.tmp 144), (.tmp 149)]), none⟩ (.take ⟨(some 142), (.mv (.tmp 150)), none⟩ (.take ⟨(some 151), (.ext 0 (.tmp 142)), none⟩ (.take ⟨(some 152), (.ext 1 (.tmp 142)), none⟩ (.alt false ⟨none, (.stn 3 (.tmp 21) (.tmp 151)), none⟩ (.take ⟨(some 22), (.mv (.tmp 152)), none⟩ .done) .stop)))) .stop) .stop) .stop)) (.alt false ⟨(some 21), (.alc 39 (.agg #[(.int .i64 0), (.int .i64 0), (.int .i64 0)])), none⟩ (.alt false ⟨(some 148), (.pcall 15 [(.tmp 146), (.tmp 147)]), none⟩ (.alt false ⟨(some 149), (.call 14 [(.tmp 145), (.tmp 148)]), none⟩ (.alt false ⟨(some 150), (.pcall 13 [(.tmp 143), (.tmp 144), (.tmp 149)]), none⟩ (.take ⟨(some 142), (.mv (.tmp 150)), none⟩ (.take ⟨(some 151), (.ext 0 (.tmp 142)), none⟩ (.take ⟨(some 152), (.ext 1 (.tmp 142)), none⟩ (.alt false ⟨none, (.stn 3 (.tmp 21) (.tmp 151)), none⟩ (.take ⟨(some 22), (.mv (.tmp 152)), none⟩ .done) .stop)))) .stop) .stop) .stop) .stop))))))))
    (.seq (.seq
    (.reg [⟨(some 153), (.fad 0 (.tmp 21)), none⟩, ⟨(some 154), (.ld1 (.tmp 153)), none⟩, ⟨(some 155), (.cmp .neq (.tmp 154) (.const (.int .i64 2))), none⟩, ⟨(some 156), (.mv (.tmp 155)), none⟩, ⟨(some 157), (.fad 1 (.tmp 21)), (some (156, false))⟩, ⟨(some 158), (.ld1 (.tmp 157)), (some (156, false))⟩, ⟨(some 159), (.mv (.tmp 20)), (some (156, false))⟩, ⟨(some 160), (.cmp .neq (.tmp 158) (.tmp 159)), (some (156, false))⟩, ⟨(some 161), (.pick (.tmp 156) (.const (.bool true)) (.tmp 160)), none⟩, ⟨(some 162), (.mv (.tmp 161)), none⟩, ⟨(some 163), (.mv (.tmp 9)), (some (162, false))⟩, ⟨(some 164), (.ldn 3 (.tmp 8)), (some (162, false))⟩, ⟨(some 165), (.mv (.tmp 17)), (some (162, false))⟩, ⟨(some 166), (.mv (.tmp 18)), (some (162, false))⟩, ⟨(some 167), (.pcall 16 [(.tmp 164), (.tmp 165), (.tmp 166)]), (some (162, false))⟩, ⟨(some 168), (.call 14 [(.tmp 163), (.tmp 167)]), (some (162, false))⟩, ⟨(some 169), (.mv (.tmp 15)), (some (162, false))⟩, ⟨(some 170), (.bld #[(.int .i64 0), (.int .i64 0)] [(0, (1, (.const (.int .i64 2)))), (1, (1, (.tmp 169)))]), (some (162, false))⟩, ⟨(some 171), (.pcall 17 [(.tmp 170)]), (some (162, false))⟩, ⟨(some 172), (.cmp .neq (.tmp 168) (.tmp 171)), (some (162, false))⟩, ⟨(some 173), (.pick (.tmp 162) (.const (.bool true)) (.tmp 172)), none⟩])
    (.cond (.tmp 173)
    (.seq (.reg [⟨(some 6), (.mv (.const (.bool false))), none⟩]) .ret) .skip))
    (.seq (.reg [⟨(some 174), (.mv (.tmp 17)), none⟩, ⟨(some 175), (.ar .mul (.tmp 174) (.const (.int .i64 64))), none⟩, ⟨(some 176), (.mv (.tmp 18)), none⟩, ⟨(some 177), (.mv (.tmp 20)), none⟩, ⟨(some 178), (.pcall 18 [(.tmp 177)]), none⟩, ⟨(some 179), (.ar .mul (.tmp 176) (.tmp 178)), none⟩, ⟨(some 180), (.ar .add (.tmp 175) (.tmp 179)), none⟩, ⟨(some 23), (.mv (.tmp 180)), none⟩])
    (.block 8
    (.loop (.seq
    (.seq (.reg [⟨(some 181), (.mv (.tmp 23)), none⟩, ⟨(some 182), (.mv (.tmp 17)), none⟩, ⟨(some 183), (.ar .mul (.tmp 182) (.const (.int .i64 64))), none⟩, ⟨(some 184), (.mv (.tmp 18)), none⟩, ⟨(some 185), (.ar .add (.tmp 184) (.const (.int .i64 1))), none⟩, ⟨(some 186), (.mv (.tmp 20)), none⟩, ⟨(some 187), (.pcall 18 [(.tmp 186)]), none⟩, ⟨(some 188), (.ar .mul (.tmp 185) (.tmp 187)), none⟩, ⟨(some 189), (.ar .add (.tmp 183) (.tmp 188)), none⟩, ⟨(some 190), (.cmp .lss (.tmp 181) (.tmp 189)), none⟩])
    (.cond (.tmp 190) .skip (.exit 8)))
    (.seq (.block 9
    (.seq (.seq
    (.reg [⟨(some 193), (.mv (.tmp 13)), none⟩, ⟨(some 194), (.mv (.tmp 23)), none⟩, ⟨(some 195), (.iad 1 (.tmp 193) (.tmp 194)), none⟩, ⟨(some 196), (.ld1 (.tmp 195)), none⟩])
    (.cond (.tmp 196)
    (.seq (.reg [⟨(some 6), (.mv (.const (.bool false))), none⟩]) .ret) .skip))
    (.reg [⟨(some 197), (.mv (.tmp 13)), none⟩, ⟨(some 198), (.mv (.tmp 23)), none⟩, ⟨(some 199), (.iad 1 (.tmp 197) (.tmp 198)), none⟩, ⟨none, (.st1 (.tmp 199) (.const (.bool true))), none⟩])))
    (.reg [⟨(some 191), (.mv (.tmp 23)), none⟩, ⟨(some 192), (.ar .add (.tmp 191) (.const (.int .i64 1))), none⟩, ⟨(some 23), (.mv (.tmp 192)), none⟩])))))))))))))))
    (.reg [⟨(some 101), (.mv (.tmp 15)), none⟩, ⟨(some 102), (.ar .add (.tmp 101) (.const (.int .i64 1))), none⟩, ⟨(some 15), (.mv (.tmp 102)), none⟩]))))))
    (.seq (.reg [⟨(some 200), (.mv (.tmp 14)), none⟩, ⟨(some 201), (.mv (.tmp 7)), none⟩, ⟨(some 202), (.fad 0 (.tmp 8)), none⟩, ⟨(some 203), (.ld1 (.tmp 202)), none⟩, ⟨(some 204), (.mn (.tmp 201) (.tmp 203)), none⟩, ⟨(some 205), (.cmp .geq (.tmp 200) (.tmp 204)), none⟩, ⟨(some 6), (.mv (.tmp 205)), none⟩]) .ret))))))))))))))⟩ := by kernel_rfl

/-- allotment/allotmentlaw13.awake -/
theorem tr6 : trF Try.prog pures Try.f6 = some
  ⟨51, [(.t 0)],
    (.seq (.reg [⟨(some 0), (.mv (.const (.bool false))), none⟩])
    (.seq (.reg [⟨(some 8), (.bld #[(.int .i64 0), (.int .i64 0), (.int .i64 0)] [(0, (1, (.const (.int .i64 1)))), (1, (1, (.const (.int .i64 1))))]), none⟩, ⟨(some 1), (.alc 25 (.agg #[(.int .i64 0), (.int .i64 0), (.int .i64 0)])), none⟩, ⟨none, (.stn 3 (.tmp 1) (.tmp 8)), none⟩])
    (.seq (.reg [⟨(some 9), (.ldn 3 (.tmp 1)), none⟩, ⟨(some 10), (.call 8 [(.tmp 9)]), none⟩, ⟨(some 11), (.call 7 [(.tmp 10)]), none⟩, ⟨(some 2), (.mv (.tmp 11)), none⟩])
    (.seq (.reg [⟨(some 12), (.ldn 3 (.tmp 1)), none⟩, ⟨(some 13), (.call 9 [(.tmp 12), (.const (.int .i64 0)), (.const (.int .i64 3)), (.const (.int .i64 0))]), none⟩, ⟨(some 3), (.mv (.tmp 13)), none⟩])
    (.seq (.seq
    (.reg [⟨(some 14), (.mv (.tmp 2)), none⟩, ⟨(some 15), (.pnil false (.tmp 14)), none⟩, ⟨(some 16), (.mv (.tmp 15)), none⟩, ⟨(some 17), (.mv (.tmp 3)), (some (16, false))⟩, ⟨(some 18), (.pnil false (.tmp 17)), (some (16, false))⟩, ⟨(some 19), (.pick (.tmp 16) (.const (.bool true)) (.tmp 18)), none⟩])
    (.cond (.tmp 19)
    (.seq (.reg [⟨(some 0), (.mv (.const (.bool false))), none⟩]) .ret) .skip))
    (.seq (.seq
    (.reg [⟨(some 4), (.mv (.const (.int .i64 0))), none⟩])
    (.block 0
    (.loop (.seq
    (.seq (.reg [⟨(some 20), (.mv (.tmp 4)), none⟩, ⟨(some 21), (.cmp .lss (.tmp 20) (.const (.int .i64 21))), none⟩])
    (.cond (.tmp 21) .skip (.exit 0)))
    (.seq (.block 1
    (.reg [⟨(some 24), (.mv (.tmp 3)), none⟩, ⟨(some 25), (.mv (.tmp 2)), none⟩, ⟨(some 26), (.call 10 [(.tmp 24), (.tmp 25)]), none⟩]))
    (.reg [⟨(some 22), (.mv (.tmp 4)), none⟩, ⟨(some 23), (.ar .add (.tmp 22) (.const (.int .i64 1))), none⟩, ⟨(some 4), (.mv (.tmp 23)), none⟩]))))))
    (.seq (.reg [⟨(some 28), (.mv (.tmp 3)), none⟩, ⟨(some 29), (.call 11 [(.tmp 28)]), none⟩, ⟨(some 27), (.mv (.tmp 29)), none⟩, ⟨(some 30), (.ext 0 (.tmp 27)), none⟩, ⟨(some 31), (.ext 1 (.tmp 27)), none⟩, ⟨(some 32), (.ext 2 (.tmp 27)), none⟩, ⟨(some 5), (.mv (.tmp 30)), none⟩, ⟨(some 6), (.mv (.tmp 31)), none⟩, ⟨(some 7), (.mv (.tmp 32)), none⟩])
    (.seq (.reg [⟨(some 33), (.mv (.tmp 3)), none⟩, ⟨(some 34), (.call 12 [(.tmp 33)]), none⟩, ⟨(some 35), (.mv (.tmp 34)), none⟩, ⟨(some 36), (.mv (.tmp 7)), (some (35, true))⟩, ⟨(some 37), (.pick (.tmp 35) (.tmp 36) (.const (.bool false))), none⟩, ⟨(some 38), (.mv (.tmp 37)), none⟩, ⟨(some 39), (.mv (.tmp 5)), (some (38, true))⟩, ⟨(some 40), (.cmp .eql (.tmp 39) (.const (.int .i64 0))), (some (38, true))⟩, ⟨(some 41), (.pick (.tmp 38) (.tmp 40) (.const (.bool false))), none⟩, ⟨(some 42), (.mv (.tmp 41)), none⟩, ⟨(some 43), (.mv (.tmp 6)), (some (42, true))⟩, ⟨(some 44), (.cmp .eql (.tmp 43) (.const (.int .i64 0))), (some (42, true))⟩, ⟨(some 45), (.pick (.tmp 42) (.tmp 44) (.const (.bool false))), none⟩, ⟨(some 46), (.mv (.tmp 45)), none⟩, ⟨(some 47), (.mv (.tmp 2)), (some (46, true))⟩, ⟨(some 48), (.call 28 [(.tmp 47)]), (some (46, true))⟩, ⟨(some 49), (.cmp .eql (.tmp 48) (.const (.int .i64 21))), (some (46, true))⟩, ⟨(some 50), (.pick (.tmp 46) (.tmp 49) (.const (.bool false))), none⟩, ⟨(some 0), (.mv (.tmp 50)), none⟩]) .ret))))))))⟩ := by kernel_rfl

/-- allotment/allotmentlaw13.Blank -/
theorem tr8 : trF Try.prog pures Try.f8 = some
  ⟨6, [(.t 2)],
    (.seq (.reg [⟨(some 1), (.box 25 (.tmp 0)), none⟩, ⟨(some 2), (.mv (.const (.slice none 0 0))), none⟩])
    (.seq (.reg [⟨(some 3), (.ldn 3 (.tmp 1)), none⟩, ⟨(some 4), (.pcall 31 [(.tmp 3)]), none⟩, ⟨(some 5), (.mks 42 8 (.int .u64 0) (.tmp 4) (.tmp 4)), none⟩, ⟨(some 2), (.mv (.tmp 5)), none⟩]) .ret))⟩ := by kernel_rfl

end Go.Proofs.Ytpdmeneigpipiaa
