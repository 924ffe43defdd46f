/-
  The compact code of functions of this seat, as translated from the model: each translation holds by reckoning. Conditions: none.
-/
import Derived.Test.YtjgadghmlioimaaGreatCode
set_option maxRecDepth 100000
namespace Go.Proofs.YtjgadghmlioimaaGreat
open Go Go.Ev

/-- allotment/allotmentlaw17.RenewKeeps -/
theorem tr3 : trF Tryz.prog pures Tryz.f3 = some
  ⟨142, [(.t 6)],
    (.seq (.reg [⟨(some 3), (.box 23 (.tmp 0)), none⟩, ⟨(some 5), (.box 25 (.tmp 2)), none⟩, ⟨(some 6), (.mv (.const (.bool false))), none⟩])
    (.seq (.seq
    (.reg [⟨(some 16), (.call 4 []), none⟩, ⟨(some 17), (.nt (.tmp 16)), none⟩])
    (.cond (.tmp 17)
    (.seq (.reg [⟨(some 6), (.mv (.const (.bool false))), none⟩]) .ret) .skip))
    (.seq (.seq
    (.reg [⟨(some 18), (.ldn 3 (.tmp 3)), none⟩, ⟨(some 19), (.mv (.tmp 1)), none⟩, ⟨(some 20), (.call 5 [(.tmp 18), (.tmp 19)]), none⟩, ⟨(some 21), (.nt (.tmp 20)), none⟩])
    (.cond (.tmp 21)
    (.seq (.reg [⟨(some 6), (.mv (.const (.bool true))), none⟩]) .ret) .skip))
    (.seq (.reg [⟨(some 22), (.mv (.tmp 1)), none⟩, ⟨(some 23), (.call 6 [(.tmp 22)]), none⟩, ⟨(some 7), (.mv (.tmp 23)), none⟩])
    (.seq (.reg [⟨(some 24), (.ldn 3 (.tmp 3)), none⟩, ⟨(some 25), (.iadA 4 1 (.tmp 5) (.const (.int .i64 0))), none⟩, ⟨(some 26), (.ld1 (.tmp 25)), none⟩, ⟨(some 27), (.iadA 4 1 (.tmp 5) (.const (.int .i64 1))), none⟩, ⟨(some 28), (.ld1 (.tmp 27)), none⟩, ⟨(some 29), (.iadA 4 1 (.tmp 5) (.const (.int .i64 2))), none⟩, ⟨(some 30), (.ld1 (.tmp 29)), none⟩, ⟨(some 31), (.iadA 4 1 (.tmp 5) (.const (.int .i64 3))), none⟩, ⟨(some 32), (.ld1 (.tmp 31)), none⟩, ⟨(some 33), (.call 7 [(.tmp 24), (.tmp 26), (.tmp 28), (.tmp 30), (.tmp 32)]), none⟩, ⟨(some 8), (.mv (.tmp 33)), none⟩])
    (.seq (.seq
    (.reg [⟨(some 34), (.mv (.tmp 7)), none⟩, ⟨(some 35), (.pnil false (.tmp 34)), none⟩, ⟨(some 36), (.mv (.tmp 35)), none⟩, ⟨(some 37), (.mv (.tmp 8)), (some (36, false))⟩, ⟨(some 38), (.pnil false (.tmp 37)), (some (36, false))⟩, ⟨(some 39), (.pick (.tmp 36) (.const (.bool true)) (.tmp 38)), none⟩])
    (.cond (.tmp 39)
    (.seq (.reg [⟨(some 6), (.mv (.const (.bool false))), none⟩]) .ret) .skip))
    (.seq (.seq
    (.reg [⟨(some 9), (.mv (.const (.int .i64 0))), none⟩])
    (.block 0
    (.loop (.seq
    (.seq (.reg [⟨(some 40), (.mv (.tmp 9)), none⟩, ⟨(some 41), (.fad 2 (.tmp 3)), none⟩, ⟨(some 42), (.ld1 (.tmp 41)), none⟩, ⟨(some 43), (.ar .mul (.const (.int .i64 2)) (.tmp 42)), none⟩, ⟨(some 44), (.fad 0 (.tmp 3)), none⟩, ⟨(some 45), (.ld1 (.tmp 44)), none⟩, ⟨(some 46), (.ar .mul (.const (.int .i64 80)) (.tmp 45)), none⟩, ⟨(some 47), (.ar .add (.tmp 43) (.tmp 46)), none⟩, ⟨(some 48), (.ar .add (.tmp 47) (.const (.int .i64 120))), none⟩, ⟨(some 49), (.cmp .lss (.tmp 40) (.tmp 48)), none⟩])
    (.cond (.tmp 49) .skip (.exit 0)))
    (.seq (.block 1
    (.reg [⟨(some 52), (.mv (.tmp 8)), none⟩, ⟨(some 53), (.mv (.tmp 7)), none⟩, ⟨(some 54), (.call 8 [(.tmp 52), (.tmp 53)]), none⟩]))
    (.reg [⟨(some 50), (.mv (.tmp 9)), none⟩, ⟨(some 51), (.ar .add (.tmp 50) (.const (.int .i64 1))), none⟩, ⟨(some 9), (.mv (.tmp 51)), none⟩]))))))
    (.seq (.seq
    (.reg [⟨(some 55), (.mv (.tmp 8)), none⟩, ⟨(some 56), (.call 9 [(.tmp 55)]), none⟩, ⟨(some 57), (.nt (.tmp 56)), none⟩])
    (.cond (.tmp 57)
    (.seq (.reg [⟨(some 6), (.mv (.const (.bool false))), none⟩]) .ret) .skip))
    (.seq (.seq
    (.reg [⟨(some 58), (.mv (.tmp 8)), none⟩, ⟨(some 59), (.call 10 [(.tmp 58)]), none⟩])
    (.cond (.tmp 59)
    (.seq (.reg [⟨(some 6), (.mv (.const (.bool true))), none⟩]) .ret) .skip))
    (.seq (.seq
    (.reg [⟨(some 10), (.mv (.const (.int .i64 0))), none⟩])
    (.block 2
    (.loop (.seq
    (.seq (.reg [⟨(some 60), (.mv (.tmp 10)), none⟩, ⟨(some 61), (.fad 0 (.tmp 3)), none⟩, ⟨(some 62), (.ld1 (.tmp 61)), none⟩, ⟨(some 63), (.ar .mul (.tmp 62) (.const (.int .i64 16))), none⟩, ⟨(some 64), (.cmp .lss (.tmp 60) (.tmp 63)), none⟩])
    (.cond (.tmp 64) .skip (.exit 2)))
    (.seq (.block 3
    (.seq (.reg [⟨(some 67), (.ldn 3 (.tmp 3)), none⟩, ⟨(some 68), (.mv (.tmp 10)), none⟩, ⟨(some 69), (.dv .quo (.tmp 68) (.const (.int .i64 16))), none⟩, ⟨(some 70), (.mv (.tmp 10)), none⟩, ⟨(some 71), (.dv .rem (.tmp 70) (.const (.int .i64 16))), none⟩, ⟨(some 72), (.pcall 11 [(.tmp 67), (.tmp 69), (.tmp 71)]), none⟩, ⟨(some 11), (.mv (.tmp 72)), none⟩])
    (.seq (.reg [⟨(some 73), (.mv (.tmp 1)), none⟩, ⟨(some 74), (.mv (.tmp 11)), none⟩, ⟨(some 75), (.iad 1 (.tmp 73) (.tmp 74)), none⟩, ⟨(some 76), (.ld1 (.tmp 75)), none⟩, ⟨(some 77), (.pcall 12 [(.tmp 76)]), none⟩, ⟨(some 12), (.alc 35 (.agg #[(.int .i64 0), (.int .i64 0)])), none⟩, ⟨none, (.stn 2 (.tmp 12) (.tmp 77)), none⟩])
    (.seq (.draw (.take ⟨(some 78), (.fad 0 (.tmp 12)), none⟩ (.take ⟨(some 79), (.ld1 (.tmp 78)), none⟩ (.take ⟨(some 80), (.cmp .eql (.tmp 79) (.const (.int .i64 3))), none⟩ (.take ⟨(some 81), (.mv (.tmp 80)), none⟩ (.take ⟨(some 82), (.mv (.tmp 7)), (some (81, true))⟩ (.take ⟨(some 83), (.mv (.tmp 11)), (some (81, true))⟩ (.take ⟨(some 85), (.mv (.tmp 1)), (some (81, true))⟩ (.take ⟨(some 86), (.mv (.tmp 11)), (some (81, true))⟩ (.take ⟨(some 87), (.iad 1 (.tmp 85) (.tmp 86)), (some (81, true))⟩ (.take ⟨(some 88), (.ld1 (.tmp 87)), (some (81, true))⟩ (.alt false ⟨(some 84), (.call 13 [(.tmp 82), (.tmp 83)]), (some (81, true))⟩ (.take ⟨(some 89), (.cmp .neq (.tmp 84) (.tmp 88)), (some (81, true))⟩ (.take ⟨(some 90), (.pick (.tmp 81) (.tmp 89) (.const (.bool false))), none⟩ (.take ⟨(some 91), (.mv (.tmp 90)), none⟩ (.take ⟨(some 92), (.mv (.tmp 7)), (some (91, true))⟩ (.take ⟨(some 93), (.mv (.tmp 11)), (some (91, true))⟩ (.alt false ⟨(some 94), (.call 13 [(.tmp 92), (.tmp 93)]), (some (91, true))⟩ (.alt false ⟨(some 95), (.pcall 12 [(.tmp 94)]), (some (91, true))⟩ (.take ⟨(some 96), (.fld1 0 (.tmp 95)), (some (91, true))⟩ (.take ⟨(some 97), (.cmp .eql (.tmp 96) (.const (.int .i64 3))), (some (91, true))⟩ (.take ⟨(some 98), (.pick (.tmp 91) (.tmp 97) (.const (.bool false))), none⟩ .done))) .stop) .stop)))))) .stop))))))))))))
    (.cond (.tmp 98)
    (.seq (.reg [⟨(some 6), (.mv (.const (.bool false))), none⟩]) .ret) .skip)))))
    (.reg [⟨(some 65), (.mv (.tmp 10)), none⟩, ⟨(some 66), (.ar .add (.tmp 65) (.const (.int .i64 1))), none⟩, ⟨(some 10), (.mv (.tmp 66)), none⟩]))))))
    (.seq (.seq
    (.reg [⟨(some 13), (.mv (.const (.int .i64 0))), none⟩])
    (.block 4
    (.loop (.seq
    (.seq (.reg [⟨(some 99), (.mv (.tmp 13)), none⟩, ⟨(some 100), (.fad 0 (.tmp 3)), none⟩, ⟨(some 101), (.ld1 (.tmp 100)), none⟩, ⟨(some 102), (.cmp .lss (.tmp 99) (.tmp 101)), none⟩])
    (.cond (.tmp 102) .skip (.exit 4)))
    (.seq (.block 5
    (.seq (.draw (.take ⟨(some 106), (.ldn 3 (.tmp 3)), none⟩ (.take ⟨(some 107), (.mv (.tmp 13)), none⟩ (.take ⟨(some 108), (.mv (.tmp 1)), none⟩ (.take ⟨(some 109), (.ldn 3 (.tmp 3)), none⟩ (.take ⟨(some 110), (.mv (.tmp 13)), none⟩ (.alt false ⟨(some 111), (.pcall 15 [(.tmp 109), (.tmp 110)]), none⟩ (.take ⟨(some 112), (.iad 1 (.tmp 108) (.tmp 111)), none⟩ (.take ⟨(some 113), (.ld1 (.tmp 112)), none⟩ (.alt false ⟨(some 114), (.pcall 14 [(.tmp 106), (.tmp 107), (.tmp 113)]), none⟩ (.take ⟨(some 105), (.mv (.tmp 114)), none⟩ (.take ⟨(some 115), (.ext 0 (.tmp 105)), none⟩ (.take ⟨(some 116), (.ext 1 (.tmp 105)), none⟩ (.alt false ⟨(some 14), (.alc 40 (.agg #[(.int .i64 0), (.int .i64 0), (.int .i64 0)])), none⟩ (.alt false ⟨none, (.stn 3 (.tmp 14) (.tmp 115)), none⟩ (.take ⟨(some 15), (.mv (.tmp 116)), none⟩ .done) .stop) .stop)))) (.alt false ⟨(some 14), (.alc 40 (.agg #[(.int .i64 0), (.int .i64 0), (.int .i64 0)])), none⟩ (.alt false ⟨(some 114), (.pcall 14 [(.tmp 106), (.tmp 107), (.tmp 113)]), none⟩ (.take ⟨(some 105), (.mv (.tmp 114)), none⟩ (.take ⟨(some 115), (.ext 0 (.tmp 105)), none⟩ (.take ⟨(some 116), (.ext 1 (.tmp 105)), none⟩ (.alt false ⟨none, (.stn 3 (.tmp 14) (.tmp 115)), none⟩ (.take ⟨(some 15), (.mv (.tmp 116)), none⟩ .done) .stop)))) .stop) .stop)))) (.alt false ⟨(some 14), (.alc 40 (.agg #[(.int .i64 0), (.int .i64 0), (.int .i64 0)])), none⟩ (.alt false ⟨(some 111), (.pcall 15 [(.tmp 109), (.tmp 110)]), none⟩ (.take ⟨(some 112), (.iad 1 (.tmp 108) (.tmp 111)), none⟩ (.take ⟨(some 113), (.ld1 (.tmp 112)), none⟩ (.alt false ⟨(some 114), (.pcall 14 [(.tmp 106), (.tmp 107), (.tmp 113)]), none⟩ (.take ⟨(some 105), (.mv (.tmp 114)), none⟩ (.take ⟨(some 115), (.ext 0 (.tmp 105)), none⟩ (.take ⟨(some 116), (.ext 1 (.tmp 105)), none⟩ (.alt false ⟨none, (.stn 3 (.tmp 14) (.tmp 115)), none⟩ (.take ⟨(some 15), (.mv (.tmp 116)), none⟩ .done) .stop)))) .stop))) .stop) .stop))))))))
    (.seq (.draw (.take ⟨(some 117), (.mv (.tmp 15)), none⟩ (.take ⟨(some 118), (.mv (.tmp 117)), none⟩ (.take ⟨(some 119), (.fad 0 (.tmp 14)), (some (118, true))⟩ (.take ⟨(some 120), (.ld1 (.tmp 119)), (some (118, true))⟩ (.take ⟨(some 121), (.cmp .eql (.tmp 120) (.const (.int .i64 3))), (some (118, true))⟩ (.take ⟨(some 122), (.mv (.tmp 121)), (some (118, true))⟩ (.take ⟨(some 123), (.fad 0 (.tmp 14)), (some (122, false))⟩ (.take ⟨(some 124), (.ld1 (.tmp 123)), (some (122, false))⟩ (.take ⟨(some 125), (.cmp .eql (.tmp 124) (.const (.int .i64 4))), (some (122, false))⟩ (.take ⟨(some 126), (.pick (.tmp 122) (.const (.bool true)) (.tmp 125)), (some (118, true))⟩ (.take ⟨(some 127), (.pick (.tmp 118) (.tmp 126) (.const (.bool false))), none⟩ (.take ⟨(some 128), (.mv (.tmp 127)), none⟩ (.take ⟨(some 129), (.mv (.tmp 7)), (some (128, true))⟩ (.take ⟨(some 130), (.ldn 3 (.tmp 3)), (some (128, true))⟩ (.take ⟨(some 131), (.mv (.tmp 13)), (some (128, true))⟩ (.take ⟨(some 134), (.mv (.tmp 1)), (some (128, true))⟩ (.take ⟨(some 135), (.ldn 3 (.tmp 3)), (some (128, true))⟩ (.take ⟨(some 136), (.mv (.tmp 13)), (some (128, true))⟩ (.alt false ⟨(some 132), (.pcall 15 [(.tmp 130), (.tmp 131)]), (some (128, true))⟩ (.alt false ⟨(some 133), (.call 13 [(.tmp 129), (.tmp 132)]), (some (128, true))⟩ (.alt false ⟨(some 137), (.pcall 15 [(.tmp 135), (.tmp 136)]), (some (128, true))⟩ (.take ⟨(some 138), (.iad 1 (.tmp 134) (.tmp 137)), (some (128, true))⟩ (.take ⟨(some 139), (.ld1 (.tmp 138)), (some (128, true))⟩ (.take ⟨(some 140), (.cmp .neq (.tmp 133) (.tmp 139)), (some (128, true))⟩ (.take ⟨(some 141), (.pick (.tmp 128) (.tmp 140) (.const (.bool false))), none⟩ .done)))) .stop) .stop) .stop))))))))))))))))))))
    (.cond (.tmp 141)
    (.seq (.reg [⟨(some 6), (.mv (.const (.bool false))), none⟩]) .ret) .skip))))
    (.reg [⟨(some 103), (.mv (.tmp 13)), none⟩, ⟨(some 104), (.ar .add (.tmp 103) (.const (.int .i64 1))), none⟩, ⟨(some 13), (.mv (.tmp 104)), none⟩]))))))
    (.seq (.reg [⟨(some 6), (.mv (.const (.bool true))), none⟩]) .ret))))))))))))⟩ := by kernel_rfl

/-- allotment/allotmentlaw17.awake -/
theorem tr4 : trF Tryz.prog pures Tryz.f4 = some
  ⟨69, [(.t 0)],
    (.seq (.reg [⟨(some 0), (.mv (.const (.bool false))), none⟩])
    (.seq (.reg [⟨(some 8), (.bld #[(.int .i64 0), (.int .i64 0), (.int .i64 0)] [(0, (1, (.const (.int .i64 3)))), (1, (1, (.const (.int .i64 1))))]), none⟩, ⟨(some 1), (.alc 23 (.agg #[(.int .i64 0), (.int .i64 0), (.int .i64 0)])), none⟩, ⟨none, (.stn 3 (.tmp 1) (.tmp 8)), none⟩])
    (.seq (.reg [⟨(some 9), (.ldn 3 (.tmp 1)), none⟩, ⟨(some 10), (.pcall 16 [(.tmp 9)]), none⟩, ⟨(some 11), (.mks 37 8 (.int .u64 0) (.tmp 10) (.tmp 10)), none⟩, ⟨(some 2), (.mv (.tmp 11)), none⟩])
    (.seq (.reg [⟨(some 12), (.mv (.tmp 2)), none⟩, ⟨(some 13), (.bld #[(.int .i64 0), (.int .i64 0), (.int .i64 0)] [(0, (1, (.const (.int .i64 3)))), (1, (1, (.const (.int .i64 1))))]), none⟩, ⟨(some 14), (.pcall 17 [(.tmp 13)]), none⟩, ⟨(some 15), (.iad 1 (.tmp 12) (.const (.int .i64 1))), none⟩, ⟨none, (.st1 (.tmp 15) (.tmp 14)), none⟩])
    (.seq (.reg [⟨(some 16), (.mv (.tmp 2)), none⟩, ⟨(some 17), (.call 6 [(.tmp 16)]), none⟩, ⟨(some 3), (.mv (.tmp 17)), none⟩])
    (.seq (.reg [⟨(some 18), (.ldn 3 (.tmp 1)), none⟩, ⟨(some 19), (.call 7 [(.tmp 18), (.const (.int .i64 0)), (.const (.int .i64 0)), (.const (.int .i64 100)), (.const (.int .i64 0))]), none⟩, ⟨(some 4), (.mv (.tmp 19)), none⟩])
    (.seq (.seq
    (.reg [⟨(some 20), (.mv (.tmp 3)), none⟩, ⟨(some 21), (.pnil false (.tmp 20)), none⟩, ⟨(some 22), (.mv (.tmp 21)), none⟩, ⟨(some 23), (.mv (.tmp 4)), (some (22, false))⟩, ⟨(some 24), (.pnil false (.tmp 23)), (some (22, false))⟩, ⟨(some 25), (.pick (.tmp 22) (.const (.bool true)) (.tmp 24)), none⟩])
    (.cond (.tmp 25)
    (.seq (.reg [⟨(some 0), (.mv (.const (.bool false))), none⟩]) .ret) .skip))
    (.seq (.seq
    (.reg [⟨(some 5), (.mv (.const (.int .i64 0))), none⟩])
    (.block 0
    (.loop (.seq
    (.seq (.reg [⟨(some 26), (.mv (.tmp 5)), none⟩, ⟨(some 27), (.cmp .lss (.tmp 26) (.const (.int .i64 40))), none⟩])
    (.cond (.tmp 27) .skip (.exit 0)))
    (.seq (.block 1
    (.reg [⟨(some 30), (.mv (.tmp 4)), none⟩, ⟨(some 31), (.mv (.tmp 3)), none⟩, ⟨(some 32), (.call 8 [(.tmp 30), (.tmp 31)]), none⟩]))
    (.reg [⟨(some 28), (.mv (.tmp 5)), none⟩, ⟨(some 29), (.ar .add (.tmp 28) (.const (.int .i64 1))), none⟩, ⟨(some 5), (.mv (.tmp 29)), none⟩]))))))
    (.seq (.reg [⟨(some 34), (.mv (.tmp 4)), none⟩, ⟨(some 35), (.call 18 [(.tmp 34)]), none⟩, ⟨(some 33), (.mv (.tmp 35)), none⟩, ⟨(some 36), (.ext 0 (.tmp 33)), none⟩, ⟨(some 37), (.ext 1 (.tmp 33)), none⟩, ⟨(some 6), (.alc 48 (.agg #[(.bool false), (.int .i64 0), (.int .i64 0), (.int .i64 0), (.int .i64 0)])), none⟩, ⟨none, (.stn 5 (.tmp 6) (.tmp 36)), none⟩, ⟨(some 7), (.mv (.tmp 37)), none⟩])
    (.seq (.reg [⟨(some 38), (.mv (.tmp 4)), none⟩, ⟨(some 39), (.call 9 [(.tmp 38)]), none⟩, ⟨(some 40), (.mv (.tmp 39)), none⟩, ⟨(some 41), (.mv (.tmp 7)), (some (40, true))⟩, ⟨(some 42), (.pick (.tmp 40) (.tmp 41) (.const (.bool false))), none⟩, ⟨(some 43), (.mv (.tmp 42)), none⟩, ⟨(some 44), (.mv (.tmp 4)), (some (43, true))⟩, ⟨(some 45), (.call 10 [(.tmp 44)]), (some (43, true))⟩, ⟨(some 46), (.pick (.tmp 43) (.tmp 45) (.const (.bool false))), none⟩, ⟨(some 47), (.mv (.tmp 46)), none⟩, ⟨(some 48), (.mv (.tmp 4)), (some (47, true))⟩, ⟨(some 49), (.call 19 [(.tmp 48)]), (some (47, true))⟩, ⟨(some 50), (.cmp .eql (.tmp 49) (.const (.int .i64 0))), (some (47, true))⟩, ⟨(some 51), (.pick (.tmp 47) (.tmp 50) (.const (.bool false))), none⟩, ⟨(some 52), (.mv (.tmp 51)), none⟩, ⟨(some 53), (.ldn 5 (.tmp 6)), (some (52, true))⟩, ⟨(some 54), (.call 20 [(.tmp 53)]), (some (52, true))⟩, ⟨(some 55), (.cmp .eql (.tmp 54) (.const (.int .i64 64))), (some (52, true))⟩, ⟨(some 56), (.pick (.tmp 52) (.tmp 55) (.const (.bool false))), none⟩, ⟨(some 57), (.mv (.tmp 56)), none⟩, ⟨(some 58), (.mv (.tmp 3)), (some (57, true))⟩, ⟨(some 59), (.call 13 [(.tmp 58), (.const (.int .i64 1))]), (some (57, true))⟩, ⟨(some 60), (.cmp .eql (.tmp 59) (.const (.int .u64 0))), (some (57, true))⟩, ⟨(some 61), (.pick (.tmp 57) (.tmp 60) (.const (.bool false))), none⟩, ⟨(some 62), (.mv (.tmp 61)), none⟩, ⟨(some 63), (.mv (.tmp 3)), (some (62, true))⟩, ⟨(some 64), (.call 13 [(.tmp 63), (.const (.int .i64 2))]), (some (62, true))⟩, ⟨(some 65), (.bld #[(.int .i64 0), (.int .i64 0), (.int .i64 0)] [(0, (1, (.const (.int .i64 3)))), (1, (1, (.const (.int .i64 2))))]), (some (62, true))⟩, ⟨(some 66), (.pcall 17 [(.tmp 65)]), (some (62, true))⟩, ⟨(some 67), (.cmp .eql (.tmp 64) (.tmp 66)), (some (62, true))⟩, ⟨(some 68), (.pick (.tmp 62) (.tmp 67) (.const (.bool false))), none⟩, ⟨(some 0), (.mv (.tmp 68)), none⟩]) .ret))))))))))⟩ := by kernel_rfl

end Go.Proofs.YtjgadghmlioimaaGreat
