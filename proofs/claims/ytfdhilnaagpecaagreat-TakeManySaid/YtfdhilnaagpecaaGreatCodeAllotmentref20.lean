/-
  The compact code of functions of this seat, as translated from the model: each translation holds by reckoning. Conditions: none.
-/
import Derived.Test.YtfdhilnaagpecaaGreatCode
set_option maxRecDepth 100000
namespace Go.Proofs.YtfdhilnaagpecaaGreat
open Go Go.Ev

/-- allotment/allotmentref20.Blocks -/
theorem tr19 : trF Tryz.prog pures Tryz.f19 = some
  ⟨81, [(.t 4)],
    (.seq (.reg [⟨(some 2), (.box 26 (.tmp 0)), none⟩, ⟨(some 4), (.mv (.const (.slice none 0 0))), none⟩])
    (.seq (.reg [⟨(some 5), (.mv (.const (.slice none 0 0))), none⟩])
    (.seq (.seq
    (.reg [⟨(some 6), (.mv (.const (.int .i64 0))), none⟩])
    (.block 0
    (.loop (.seq
    (.seq (.reg [⟨(some 11), (.mv (.tmp 6)), none⟩, ⟨(some 12), (.fad 0 (.tmp 2)), none⟩, ⟨(some 13), (.ld1 (.tmp 12)), none⟩, ⟨(some 14), (.cmp .lss (.tmp 11) (.tmp 13)), none⟩, ⟨(some 15), (.mv (.tmp 14)), none⟩, ⟨(some 16), (.ldn 3 (.tmp 2)), (some (15, true))⟩, ⟨(some 17), (.mv (.tmp 1)), (some (15, true))⟩, ⟨(some 18), (.call 48 [(.tmp 16), (.tmp 17)]), (some (15, true))⟩, ⟨(some 19), (.pick (.tmp 15) (.tmp 18) (.const (.bool false))), none⟩])
    (.cond (.tmp 19) .skip (.exit 0)))
    (.seq (.block 1
    (.seq (.reg [⟨(some 23), (.ldn 3 (.tmp 2)), none⟩, ⟨(some 24), (.mv (.tmp 1)), none⟩, ⟨(some 25), (.mv (.tmp 6)), none⟩, ⟨(some 26), (.call 49 [(.tmp 23), (.tmp 24), (.tmp 25)]), none⟩, ⟨(some 22), (.mv (.tmp 26)), none⟩, ⟨(some 27), (.ext 0 (.tmp 22)), none⟩, ⟨(some 28), (.ext 1 (.tmp 22)), none⟩, ⟨(some 7), (.alc 64 (.agg #[(.int .i64 0), (.int .i64 0), (.int .i64 0)])), none⟩, ⟨none, (.stn 3 (.tmp 7) (.tmp 27)), none⟩, ⟨(some 8), (.mv (.tmp 28)), none⟩])
    (.block 2
    (.seq (.reg [⟨(some 30), (.mv (.tmp 8)), none⟩, ⟨(some 31), (.mv (.tmp 30)), none⟩, ⟨(some 32), (.fad 0 (.tmp 7)), (some (31, true))⟩, ⟨(some 33), (.ld1 (.tmp 32)), (some (31, true))⟩, ⟨(some 34), (.cmp .eql (.tmp 33) (.const (.int .i64 3))), (some (31, true))⟩, ⟨(some 35), (.pick (.tmp 31) (.tmp 34) (.const (.bool false))), none⟩, ⟨(some 29), (.mv (.tmp 35)), none⟩])
    (.cond (.tmp 29)
    (.reg [⟨(some 36), (.mv (.tmp 5)), none⟩, ⟨(some 37), (.mv (.tmp 6)), none⟩, ⟨(some 38), (.ar .mul (.tmp 37) (.const (.int .i64 64))), none⟩, ⟨(some 39), (.fad 1 (.tmp 7)), none⟩, ⟨(some 40), (.ld1 (.tmp 39)), none⟩, ⟨(some 41), (.ar .mul (.tmp 40) (.const (.int .i64 64))), none⟩, ⟨(some 42), (.bld #[(.int .i64 0), (.int .i64 0)] [(0, (1, (.tmp 38))), (1, (1, (.tmp 41)))]), none⟩, ⟨(some 43), (.bsl 53 #[(.int .i64 0), (.int .i64 0)] 1 2 [(0, (.tmp 42))]), none⟩, ⟨(some 44), (.app 53 2 16 #[(.int .i64 0), (.int .i64 0)] (.tmp 36) (.tmp 43)), none⟩, ⟨(some 5), (.mv (.tmp 44)), none⟩])
    (.seq (.reg [⟨(some 46), (.mv (.tmp 8)), none⟩, ⟨(some 47), (.mv (.tmp 46)), none⟩, ⟨(some 48), (.fad 0 (.tmp 7)), (some (47, true))⟩, ⟨(some 49), (.ld1 (.tmp 48)), (some (47, true))⟩, ⟨(some 50), (.cmp .eql (.tmp 49) (.const (.int .i64 2))), (some (47, true))⟩, ⟨(some 51), (.pick (.tmp 47) (.tmp 50) (.const (.bool false))), none⟩, ⟨(some 45), (.mv (.tmp 51)), none⟩])
    (.cond (.tmp 45)
    (.seq (.reg [⟨(some 52), (.fad 1 (.tmp 7)), none⟩, ⟨(some 53), (.ld1 (.tmp 52)), none⟩, ⟨(some 54), (.pcall 44 [(.tmp 53)]), none⟩, ⟨(some 9), (.mv (.tmp 54)), none⟩])
    (.seq (.reg [⟨(some 10), (.mv (.const (.int .i64 0))), none⟩])
    (.block 3
    (.loop (.seq
    (.seq (.reg [⟨(some 55), (.mv (.tmp 10)), none⟩, ⟨(some 56), (.fad 1 (.tmp 7)), none⟩, ⟨(some 57), (.ld1 (.tmp 56)), none⟩, ⟨(some 58), (.pcall 50 [(.tmp 57)]), none⟩, ⟨(some 59), (.cmp .lss (.tmp 55) (.tmp 58)), none⟩])
    (.cond (.tmp 59) .skip (.exit 3)))
    (.seq (.block 4
    (.seq (.reg [⟨(some 62), (.ldn 3 (.tmp 2)), none⟩, ⟨(some 63), (.mv (.tmp 1)), none⟩, ⟨(some 64), (.mv (.tmp 6)), none⟩, ⟨(some 65), (.mv (.tmp 10)), none⟩, ⟨(some 66), (.call 51 [(.tmp 62), (.tmp 63), (.tmp 64), (.tmp 65)]), none⟩, ⟨(some 67), (.fld1 0 (.tmp 66)), none⟩, ⟨(some 68), (.cmp .eql (.tmp 67) (.const (.int .i64 3))), none⟩])
    (.cond (.tmp 68)
    (.reg [⟨(some 69), (.mv (.tmp 5)), none⟩, ⟨(some 70), (.mv (.tmp 6)), none⟩, ⟨(some 71), (.ar .mul (.tmp 70) (.const (.int .i64 64))), none⟩, ⟨(some 72), (.mv (.tmp 10)), none⟩, ⟨(some 73), (.mv (.tmp 9)), none⟩, ⟨(some 74), (.ar .mul (.tmp 72) (.tmp 73)), none⟩, ⟨(some 75), (.ar .add (.tmp 71) (.tmp 74)), none⟩, ⟨(some 76), (.mv (.tmp 9)), none⟩, ⟨(some 77), (.bld #[(.int .i64 0), (.int .i64 0)] [(0, (1, (.tmp 75))), (1, (1, (.tmp 76)))]), none⟩, ⟨(some 78), (.bsl 53 #[(.int .i64 0), (.int .i64 0)] 1 2 [(0, (.tmp 77))]), none⟩, ⟨(some 79), (.app 53 2 16 #[(.int .i64 0), (.int .i64 0)] (.tmp 69) (.tmp 78)), none⟩, ⟨(some 5), (.mv (.tmp 79)), none⟩]) .skip)))
    (.reg [⟨(some 60), (.mv (.tmp 10)), none⟩, ⟨(some 61), (.ar .add (.tmp 60) (.const (.int .i64 1))), none⟩, ⟨(some 10), (.mv (.tmp 61)), none⟩]))))))) .skip)))))))
    (.reg [⟨(some 20), (.mv (.tmp 6)), none⟩, ⟨(some 21), (.ar .add (.tmp 20) (.const (.int .i64 1))), none⟩, ⟨(some 6), (.mv (.tmp 21)), none⟩]))))))
    (.seq (.reg [⟨(some 80), (.mv (.tmp 5)), none⟩, ⟨(some 4), (.mv (.tmp 80)), none⟩]) .ret))))⟩ := by kernel_rfl

/-- allotment/allotmentref20.Sound -/
theorem tr21 : trF Tryz.prog pures Tryz.f21 = some
  ⟨134, [(.t 4)],
    (.seq (.reg [⟨(some 2), (.box 26 (.tmp 0)), none⟩, ⟨(some 4), (.mv (.const (.bool false))), none⟩])
    (.seq (.seq
    (.reg [⟨(some 17), (.ldn 3 (.tmp 2)), none⟩, ⟨(some 18), (.mv (.tmp 1)), none⟩, ⟨(some 19), (.call 48 [(.tmp 17), (.tmp 18)]), none⟩, ⟨(some 20), (.nt (.tmp 19)), none⟩])
    (.cond (.tmp 20)
    (.seq (.reg [⟨(some 4), (.mv (.const (.bool false))), none⟩]) .ret) .skip))
    (.seq (.seq
    (.reg [⟨(some 5), (.mv (.const (.int .i64 0))), none⟩])
    (.block 0
    (.loop (.seq
    (.seq (.reg [⟨(some 21), (.mv (.tmp 5)), none⟩, ⟨(some 22), (.fad 0 (.tmp 2)), none⟩, ⟨(some 23), (.ld1 (.tmp 22)), none⟩, ⟨(some 24), (.cmp .lss (.tmp 21) (.tmp 23)), none⟩])
    (.cond (.tmp 24) .skip (.exit 0)))
    (.seq (.block 1
    (.seq (.reg [⟨(some 28), (.ldn 3 (.tmp 2)), none⟩, ⟨(some 29), (.mv (.tmp 1)), none⟩, ⟨(some 30), (.mv (.tmp 5)), none⟩, ⟨(some 31), (.call 49 [(.tmp 28), (.tmp 29), (.tmp 30)]), none⟩, ⟨(some 27), (.mv (.tmp 31)), none⟩, ⟨(some 32), (.ext 0 (.tmp 27)), none⟩, ⟨(some 33), (.ext 1 (.tmp 27)), none⟩, ⟨(some 6), (.alc 64 (.agg #[(.int .i64 0), (.int .i64 0), (.int .i64 0)])), none⟩, ⟨none, (.stn 3 (.tmp 6) (.tmp 32)), none⟩, ⟨(some 7), (.mv (.tmp 33)), none⟩])
    (.seq (.reg [⟨(some 34), (.mv (.tmp 7)), none⟩, ⟨(some 35), (.nt (.tmp 34)), none⟩, ⟨(some 36), (.mv (.tmp 35)), none⟩, ⟨(some 37), (.ldn 3 (.tmp 2)), (some (36, false))⟩, ⟨(some 38), (.mv (.tmp 1)), (some (36, false))⟩, ⟨(some 39), (.mv (.tmp 5)), (some (36, false))⟩, ⟨(some 40), (.ldn 3 (.tmp 6)), (some (36, false))⟩, ⟨(some 41), (.call 53 [(.tmp 37), (.tmp 38), (.tmp 39), (.tmp 40)]), (some (36, false))⟩, ⟨(some 42), (.nt (.tmp 41)), (some (36, false))⟩, ⟨(some 43), (.pick (.tmp 36) (.const (.bool true)) (.tmp 42)), none⟩])
    (.cond (.tmp 43)
    (.seq (.reg [⟨(some 4), (.mv (.const (.bool false))), none⟩]) .ret) .skip))))
    (.reg [⟨(some 25), (.mv (.tmp 5)), none⟩, ⟨(some 26), (.ar .add (.tmp 25) (.const (.int .i64 1))), none⟩, ⟨(some 5), (.mv (.tmp 26)), none⟩]))))))
    (.seq (.reg [⟨(some 8), (.mv (.const (.slice none 0 0))), none⟩])
    (.seq (.seq
    (.reg [⟨(some 9), (.mv (.const (.int .i64 0))), none⟩])
    (.block 2
    (.loop (.seq
    (.seq (.reg [⟨(some 44), (.mv (.tmp 9)), none⟩, ⟨(some 45), (.fad 1 (.tmp 2)), none⟩, ⟨(some 46), (.ld1 (.tmp 45)), none⟩, ⟨(some 47), (.cmp .lss (.tmp 44) (.tmp 46)), none⟩])
    (.cond (.tmp 47) .skip (.exit 2)))
    (.seq (.block 3
    (.seq (.reg [⟨(some 10), (.mv (.const (.int .i64 0))), none⟩])
    (.block 4
    (.loop (.seq
    (.seq (.reg [⟨(some 50), (.mv (.tmp 10)), none⟩, ⟨(some 51), (.fad 2 (.tmp 2)), none⟩, ⟨(some 52), (.ld1 (.tmp 51)), none⟩, ⟨(some 53), (.cmp .lss (.tmp 50) (.tmp 52)), none⟩])
    (.cond (.tmp 53) .skip (.exit 4)))
    (.seq (.block 5
    (.seq (.reg [⟨(some 56), (.mv (.tmp 1)), none⟩, ⟨(some 57), (.ldn 3 (.tmp 2)), none⟩, ⟨(some 58), (.mv (.tmp 9)), none⟩, ⟨(some 59), (.mv (.tmp 10)), none⟩, ⟨(some 60), (.pcall 54 [(.tmp 57), (.tmp 58), (.tmp 59)]), none⟩, ⟨(some 61), (.iad 1 (.tmp 56) (.tmp 60)), none⟩, ⟨(some 62), (.ld1 (.tmp 61)), none⟩, ⟨(some 11), (.mv (.tmp 62)), none⟩])
    (.seq (.seq
    (.reg [⟨(some 63), (.mv (.tmp 11)), none⟩, ⟨(some 64), (.cmp .eql (.tmp 63) (.const (.int .u64 0))), none⟩])
    (.cond (.tmp 64) (.exit 5) .skip))
    (.seq (.reg [⟨(some 66), (.ldn 3 (.tmp 2)), none⟩, ⟨(some 67), (.mv (.tmp 11)), none⟩, ⟨(some 68), (.pcall 55 [(.tmp 66), (.tmp 67)]), none⟩, ⟨(some 65), (.mv (.tmp 68)), none⟩, ⟨(some 69), (.ext 0 (.tmp 65)), none⟩, ⟨(some 70), (.ext 1 (.tmp 65)), none⟩, ⟨(some 12), (.alc 102 (.agg #[(.int .i64 0), (.int .i64 0), (.int .i64 0)])), none⟩, ⟨none, (.stn 3 (.tmp 12) (.tmp 69)), none⟩, ⟨(some 13), (.mv (.tmp 70)), none⟩])
    (.seq (.seq
    (.reg [⟨(some 71), (.mv (.tmp 13)), none⟩, ⟨(some 72), (.nt (.tmp 71)), none⟩])
    (.cond (.tmp 72)
    (.seq (.reg [⟨(some 4), (.mv (.const (.bool false))), none⟩]) .ret) .skip))
    (.seq (.reg [⟨(some 74), (.ldn 3 (.tmp 2)), none⟩, ⟨(some 75), (.mv (.tmp 1)), none⟩, ⟨(some 76), (.fad 0 (.tmp 12)), none⟩, ⟨(some 77), (.ld1 (.tmp 76)), none⟩, ⟨(some 78), (.call 49 [(.tmp 74), (.tmp 75), (.tmp 77)]), none⟩, ⟨(some 73), (.mv (.tmp 78)), none⟩, ⟨(some 79), (.ext 0 (.tmp 73)), none⟩, ⟨(some 80), (.ext 1 (.tmp 73)), none⟩, ⟨(some 14), (.alc 64 (.agg #[(.int .i64 0), (.int .i64 0), (.int .i64 0)])), none⟩, ⟨none, (.stn 3 (.tmp 14) (.tmp 79)), none⟩, ⟨(some 15), (.mv (.tmp 80)), none⟩])
    (.seq (.seq
    (.reg [⟨(some 81), (.fad 0 (.tmp 14)), none⟩, ⟨(some 82), (.ld1 (.tmp 81)), none⟩, ⟨(some 83), (.cmp .neq (.tmp 82) (.const (.int .i64 2))), none⟩, ⟨(some 84), (.mv (.tmp 83)), none⟩, ⟨(some 85), (.fad 1 (.tmp 14)), (some (84, false))⟩, ⟨(some 86), (.ld1 (.tmp 85)), (some (84, false))⟩, ⟨(some 87), (.fad 2 (.tmp 12)), (some (84, false))⟩, ⟨(some 88), (.ld1 (.tmp 87)), (some (84, false))⟩, ⟨(some 89), (.cmp .neq (.tmp 86) (.tmp 88)), (some (84, false))⟩, ⟨(some 90), (.pick (.tmp 84) (.const (.bool true)) (.tmp 89)), none⟩, ⟨(some 91), (.mv (.tmp 90)), none⟩, ⟨(some 92), (.mv (.tmp 1)), (some (91, false))⟩, ⟨(some 93), (.ldn 3 (.tmp 2)), (some (91, false))⟩, ⟨(some 94), (.fad 0 (.tmp 12)), (some (91, false))⟩, ⟨(some 95), (.ld1 (.tmp 94)), (some (91, false))⟩, ⟨(some 96), (.fad 1 (.tmp 12)), (some (91, false))⟩, ⟨(some 97), (.ld1 (.tmp 96)), (some (91, false))⟩, ⟨(some 98), (.pcall 56 [(.tmp 93), (.tmp 95), (.tmp 97)]), (some (91, false))⟩, ⟨(some 99), (.iad 1 (.tmp 92) (.tmp 98)), (some (91, false))⟩, ⟨(some 100), (.ld1 (.tmp 99)), (some (91, false))⟩, ⟨(some 101), (.mv (.tmp 9)), (some (91, false))⟩, ⟨(some 102), (.bld #[(.int .i64 0), (.int .i64 0)] [(0, (1, (.const (.int .i64 2)))), (1, (1, (.tmp 101)))]), (some (91, false))⟩, ⟨(some 103), (.pcall 57 [(.tmp 102)]), (some (91, false))⟩, ⟨(some 104), (.cmp .neq (.tmp 100) (.tmp 103)), (some (91, false))⟩, ⟨(some 105), (.pick (.tmp 91) (.const (.bool true)) (.tmp 104)), none⟩])
    (.cond (.tmp 105)
    (.seq (.reg [⟨(some 4), (.mv (.const (.bool false))), none⟩]) .ret) .skip))
    (.seq (.seq
    (.reg [⟨(some 16), (.mv (.const (.int .i64 0))), none⟩])
    (.block 6
    (.loop (.seq
    (.seq (.reg [⟨(some 106), (.mv (.tmp 16)), none⟩, ⟨(some 107), (.mv (.tmp 8)), none⟩, ⟨(some 108), (.len (.tmp 107)), none⟩, ⟨(some 109), (.cmp .lss (.tmp 106) (.tmp 108)), none⟩])
    (.cond (.tmp 109) .skip (.exit 6)))
    (.seq (.block 7
    (.seq (.reg [⟨(some 112), (.mv (.tmp 8)), none⟩, ⟨(some 113), (.mv (.tmp 16)), none⟩, ⟨(some 114), (.iad 3 (.tmp 112) (.tmp 113)), none⟩, ⟨(some 115), (.fad 0 (.tmp 114)), none⟩, ⟨(some 116), (.ld1 (.tmp 115)), none⟩, ⟨(some 117), (.fad 0 (.tmp 12)), none⟩, ⟨(some 118), (.ld1 (.tmp 117)), none⟩, ⟨(some 119), (.cmp .eql (.tmp 116) (.tmp 118)), none⟩, ⟨(some 120), (.mv (.tmp 119)), none⟩, ⟨(some 121), (.mv (.tmp 8)), (some (120, true))⟩, ⟨(some 122), (.mv (.tmp 16)), (some (120, true))⟩, ⟨(some 123), (.iad 3 (.tmp 121) (.tmp 122)), (some (120, true))⟩, ⟨(some 124), (.fad 1 (.tmp 123)), (some (120, true))⟩, ⟨(some 125), (.ld1 (.tmp 124)), (some (120, true))⟩, ⟨(some 126), (.fad 1 (.tmp 12)), (some (120, true))⟩, ⟨(some 127), (.ld1 (.tmp 126)), (some (120, true))⟩, ⟨(some 128), (.cmp .eql (.tmp 125) (.tmp 127)), (some (120, true))⟩, ⟨(some 129), (.pick (.tmp 120) (.tmp 128) (.const (.bool false))), none⟩])
    (.cond (.tmp 129)
    (.seq (.reg [⟨(some 4), (.mv (.const (.bool false))), none⟩]) .ret) .skip)))
    (.reg [⟨(some 110), (.mv (.tmp 16)), none⟩, ⟨(some 111), (.ar .add (.tmp 110) (.const (.int .i64 1))), none⟩, ⟨(some 16), (.mv (.tmp 111)), none⟩]))))))
    (.reg [⟨(some 130), (.mv (.tmp 8)), none⟩, ⟨(some 131), (.ldn 3 (.tmp 12)), none⟩, ⟨(some 132), (.bsl 102 #[(.int .i64 0), (.int .i64 0), (.int .i64 0)] 1 3 [(0, (.tmp 131))]), none⟩, ⟨(some 133), (.app 102 3 24 #[(.int .i64 0), (.int .i64 0), (.int .i64 0)] (.tmp 130) (.tmp 132)), none⟩, ⟨(some 8), (.mv (.tmp 133)), none⟩])))))))))
    (.reg [⟨(some 54), (.mv (.tmp 10)), none⟩, ⟨(some 55), (.ar .add (.tmp 54) (.const (.int .i64 1))), none⟩, ⟨(some 10), (.mv (.tmp 55)), none⟩])))))))
    (.reg [⟨(some 48), (.mv (.tmp 9)), none⟩, ⟨(some 49), (.ar .add (.tmp 48) (.const (.int .i64 1))), none⟩, ⟨(some 9), (.mv (.tmp 49)), none⟩]))))))
    (.seq (.reg [⟨(some 4), (.mv (.const (.bool true))), none⟩]) .ret))))))⟩ := by kernel_rfl

/-- allotment/allotmentref20.enough -/
theorem tr48 : trF Tryz.prog pures Tryz.f48 = some
  ⟨14, [(.t 4)],
    (.seq (.reg [⟨(some 2), (.box 26 (.tmp 0)), none⟩, ⟨(some 4), (.mv (.const (.bool false))), none⟩])
    (.seq (.reg [⟨(some 5), (.ldn 3 (.tmp 2)), none⟩, ⟨(some 6), (.pcall 26 [(.tmp 5)]), none⟩, ⟨(some 7), (.mv (.tmp 6)), none⟩, ⟨(some 8), (.mv (.tmp 1)), (some (7, true))⟩, ⟨(some 9), (.len (.tmp 8)), (some (7, true))⟩, ⟨(some 10), (.ldn 3 (.tmp 2)), (some (7, true))⟩, ⟨(some 11), (.pcall 6 [(.tmp 10)]), (some (7, true))⟩, ⟨(some 12), (.cmp .geq (.tmp 9) (.tmp 11)), (some (7, true))⟩, ⟨(some 13), (.pick (.tmp 7) (.tmp 12) (.const (.bool false))), none⟩, ⟨(some 4), (.mv (.tmp 13)), none⟩]) .ret))⟩ := by kernel_rfl

/-- allotment/allotmentref20.page -/
theorem tr49 : trF Tryz.prog pures Tryz.f49 = some
  ⟨24, [(.cn 6 3), (.t 7)],
    (.seq (.reg [⟨(some 3), (.box 26 (.tmp 0)), none⟩, ⟨(some 6), (.alc 64 (.agg #[(.int .i64 0), (.int .i64 0), (.int .i64 0)])), none⟩, ⟨(some 7), (.mv (.const (.bool false))), none⟩])
    (.seq (.reg [⟨(some 9), (.ldn 3 (.tmp 3)), none⟩, ⟨(some 10), (.mv (.tmp 2)), none⟩, ⟨(some 11), (.pcall 84 [(.tmp 9), (.tmp 10)]), none⟩, ⟨(some 8), (.mv (.tmp 11)), none⟩])
    (.seq (.seq
    (.reg [⟨(some 12), (.mv (.tmp 8)), none⟩, ⟨(some 13), (.cmp .lss (.tmp 12) (.const (.int .i64 0))), none⟩])
    (.cond (.tmp 13)
    (.seq (.reg [⟨(some 14), (.bld #[(.int .i64 0), (.int .i64 0), (.int .i64 0)] []), none⟩, ⟨none, (.stn 3 (.tmp 6) (.tmp 14)), none⟩, ⟨(some 7), (.mv (.const (.bool false))), none⟩]) .ret) .skip))
    (.seq (.draw (.take ⟨(some 15), (.ldn 3 (.tmp 3)), none⟩ (.take ⟨(some 16), (.mv (.tmp 2)), none⟩ (.take ⟨(some 17), (.mv (.tmp 1)), none⟩ (.take ⟨(some 18), (.mv (.tmp 8)), none⟩ (.take ⟨(some 19), (.iad 1 (.tmp 17) (.tmp 18)), none⟩ (.take ⟨(some 20), (.ld1 (.tmp 19)), none⟩ (.alt false ⟨(some 21), (.pcall 85 [(.tmp 15), (.tmp 16), (.tmp 20)]), none⟩ (.take ⟨(some 22), (.ext 0 (.tmp 21)), none⟩ (.take ⟨(some 23), (.ext 1 (.tmp 21)), none⟩ (.alt false ⟨none, (.stn 3 (.tmp 6) (.tmp 22)), none⟩ (.take ⟨(some 7), (.mv (.tmp 23)), none⟩ .done) .stop))) .stop)))))))) .ret))))⟩ := by kernel_rfl

/-- allotment/allotmentref20.slot -/
theorem tr51 : trF Tryz.prog pures Tryz.f51 = some
  ⟨17, [(.cn 8 2)],
    (.seq (.reg [⟨(some 4), (.box 26 (.tmp 0)), none⟩, ⟨(some 8), (.alc 92 (.agg #[(.int .i64 0), (.int .i64 0)])), none⟩])
    (.seq (.reg [⟨(some 9), (.mv (.tmp 1)), none⟩, ⟨(some 10), (.ldn 3 (.tmp 4)), none⟩, ⟨(some 11), (.mv (.tmp 2)), none⟩, ⟨(some 12), (.mv (.tmp 3)), none⟩, ⟨(some 13), (.pcall 56 [(.tmp 10), (.tmp 11), (.tmp 12)]), none⟩, ⟨(some 14), (.iad 1 (.tmp 9) (.tmp 13)), none⟩, ⟨(some 15), (.ld1 (.tmp 14)), none⟩, ⟨(some 16), (.pcall 86 [(.tmp 15)]), none⟩, ⟨none, (.stn 2 (.tmp 8) (.tmp 16)), none⟩]) .ret))⟩ := by kernel_rfl

/-- allotment/allotmentref20.soundPage -/
theorem tr53 : trF Tryz.prog pures Tryz.f53 = some
  ⟨155, [(.t 8)],
    (.seq (.reg [⟨(some 4), (.box 26 (.tmp 0)), none⟩, ⟨(some 7), (.box 64 (.tmp 3)), none⟩, ⟨(some 8), (.mv (.const (.bool false))), none⟩])
    (.seq (.seq
    (.reg [⟨(some 19), (.fad 0 (.tmp 7)), none⟩, ⟨(some 20), (.ld1 (.tmp 19)), none⟩])
    (.block 0
    (.seq (.reg [⟨(some 22), (.cmp .eql (.tmp 20) (.const (.int .i64 2))), none⟩, ⟨(some 21), (.mv (.tmp 22)), none⟩])
    (.cond (.tmp 21)
    (.seq (.seq
    (.reg [⟨(some 9), (.mv (.const (.int .i64 0))), none⟩])
    (.block 1
    (.loop (.seq
    (.seq (.reg [⟨(some 23), (.mv (.tmp 9)), none⟩, ⟨(some 24), (.cmp .lss (.tmp 23) (.const (.int .i64 16))), none⟩])
    (.cond (.tmp 24) .skip (.exit 1)))
    (.seq (.block 2
    (.seq (.reg [⟨(some 27), (.ldn 3 (.tmp 4)), none⟩, ⟨(some 28), (.mv (.tmp 1)), none⟩, ⟨(some 29), (.mv (.tmp 2)), none⟩, ⟨(some 30), (.mv (.tmp 9)), none⟩, ⟨(some 31), (.call 51 [(.tmp 27), (.tmp 28), (.tmp 29), (.tmp 30)]), none⟩, ⟨(some 10), (.alc 92 (.agg #[(.int .i64 0), (.int .i64 0)])), none⟩, ⟨none, (.stn 2 (.tmp 10) (.tmp 31)), none⟩])
    (.seq (.reg [⟨(some 32), (.mv (.tmp 1)), none⟩, ⟨(some 33), (.ldn 3 (.tmp 4)), none⟩, ⟨(some 34), (.mv (.tmp 2)), none⟩, ⟨(some 35), (.mv (.tmp 9)), none⟩, ⟨(some 36), (.pcall 56 [(.tmp 33), (.tmp 34), (.tmp 35)]), none⟩, ⟨(some 37), (.iad 1 (.tmp 32) (.tmp 36)), none⟩, ⟨(some 38), (.ld1 (.tmp 37)), none⟩, ⟨(some 11), (.mv (.tmp 38)), none⟩])
    (.seq (.reg [⟨(some 39), (.fad 0 (.tmp 10)), none⟩, ⟨(some 40), (.ld1 (.tmp 39)), none⟩, ⟨(some 41), (.cmp .eql (.tmp 40) (.const (.int .i64 1))), none⟩, ⟨(some 42), (.mv (.tmp 41)), none⟩, ⟨(some 43), (.fad 0 (.tmp 10)), (some (42, false))⟩, ⟨(some 44), (.ld1 (.tmp 43)), (some (42, false))⟩, ⟨(some 45), (.cmp .eql (.tmp 44) (.const (.int .i64 3))), (some (42, false))⟩, ⟨(some 46), (.pick (.tmp 42) (.const (.bool true)) (.tmp 45)), none⟩, ⟨(some 47), (.mv (.tmp 46)), none⟩, ⟨(some 48), (.fad 1 (.tmp 10)), (some (47, true))⟩, ⟨(some 49), (.ld1 (.tmp 48)), (some (47, true))⟩, ⟨(some 50), (.fad 1 (.tmp 7)), (some (47, true))⟩, ⟨(some 51), (.ld1 (.tmp 50)), (some (47, true))⟩, ⟨(some 52), (.cmp .eql (.tmp 49) (.tmp 51)), (some (47, true))⟩, ⟨(some 53), (.pick (.tmp 47) (.tmp 52) (.const (.bool false))), none⟩, ⟨(some 54), (.mv (.tmp 53)), none⟩, ⟨(some 55), (.fad 0 (.tmp 10)), (some (54, false))⟩, ⟨(some 56), (.ld1 (.tmp 55)), (some (54, false))⟩, ⟨(some 57), (.cmp .eql (.tmp 56) (.const (.int .i64 2))), (some (54, false))⟩, ⟨(some 58), (.mv (.tmp 57)), (some (54, false))⟩, ⟨(some 59), (.fad 1 (.tmp 10)), (some (58, true))⟩, ⟨(some 60), (.ld1 (.tmp 59)), (some (58, true))⟩, ⟨(some 61), (.fad 1 (.tmp 4)), (some (58, true))⟩, ⟨(some 62), (.ld1 (.tmp 61)), (some (58, true))⟩, ⟨(some 63), (.cmp .lss (.tmp 60) (.tmp 62)), (some (58, true))⟩, ⟨(some 64), (.pick (.tmp 58) (.tmp 63) (.const (.bool false))), (some (54, false))⟩, ⟨(some 65), (.pick (.tmp 54) (.const (.bool true)) (.tmp 64)), none⟩, ⟨(some 12), (.mv (.tmp 65)), none⟩])
    (.seq (.reg [⟨(some 66), (.mv (.tmp 9)), none⟩, ⟨(some 67), (.fad 1 (.tmp 7)), none⟩, ⟨(some 68), (.ld1 (.tmp 67)), none⟩, ⟨(some 69), (.pcall 50 [(.tmp 68)]), none⟩, ⟨(some 70), (.cmp .lss (.tmp 66) (.tmp 69)), none⟩, ⟨(some 71), (.mv (.tmp 70)), none⟩, ⟨(some 72), (.mv (.tmp 12)), (some (71, true))⟩, ⟨(some 73), (.nt (.tmp 72)), (some (71, true))⟩, ⟨(some 74), (.pick (.tmp 71) (.tmp 73) (.const (.bool false))), none⟩, ⟨(some 75), (.mv (.tmp 74)), none⟩, ⟨(some 76), (.mv (.tmp 9)), (some (75, false))⟩, ⟨(some 77), (.fad 1 (.tmp 7)), (some (75, false))⟩, ⟨(some 78), (.ld1 (.tmp 77)), (some (75, false))⟩, ⟨(some 79), (.pcall 50 [(.tmp 78)]), (some (75, false))⟩, ⟨(some 80), (.cmp .geq (.tmp 76) (.tmp 79)), (some (75, false))⟩, ⟨(some 81), (.mv (.tmp 80)), (some (75, false))⟩, ⟨(some 82), (.mv (.tmp 11)), (some (81, true))⟩, ⟨(some 83), (.cmp .neq (.tmp 82) (.const (.int .u64 0))), (some (81, true))⟩, ⟨(some 84), (.pick (.tmp 81) (.tmp 83) (.const (.bool false))), (some (75, false))⟩, ⟨(some 85), (.pick (.tmp 75) (.const (.bool true)) (.tmp 84)), none⟩])
    (.cond (.tmp 85)
    (.seq (.reg [⟨(some 8), (.mv (.const (.bool false))), none⟩]) .ret) .skip))))))
    (.reg [⟨(some 25), (.mv (.tmp 9)), none⟩, ⟨(some 26), (.ar .add (.tmp 25) (.const (.int .i64 1))), none⟩, ⟨(some 9), (.mv (.tmp 26)), none⟩]))))))
    (.seq (.reg [⟨(some 8), (.mv (.const (.bool true))), none⟩]) .ret))
    (.seq (.reg [⟨(some 87), (.cmp .eql (.tmp 20) (.const (.int .i64 1))), none⟩, ⟨(some 86), (.mv (.tmp 87)), none⟩])
    (.cond (.tmp 86)
    (.seq (.reg [⟨(some 8), (.mv (.const (.bool true))), none⟩]) .ret) .skip))))))
    (.seq (.seq
    (.reg [⟨(some 13), (.mv (.const (.int .i64 0))), none⟩])
    (.block 3
    (.loop (.seq
    (.seq (.reg [⟨(some 88), (.mv (.tmp 13)), none⟩, ⟨(some 89), (.cmp .lss (.tmp 88) (.const (.int .i64 16))), none⟩])
    (.cond (.tmp 89) .skip (.exit 3)))
    (.seq (.block 4
    (.seq (.reg [⟨(some 92), (.mv (.tmp 1)), none⟩, ⟨(some 93), (.ldn 3 (.tmp 4)), none⟩, ⟨(some 94), (.mv (.tmp 2)), none⟩, ⟨(some 95), (.mv (.tmp 13)), none⟩, ⟨(some 96), (.pcall 56 [(.tmp 93), (.tmp 94), (.tmp 95)]), none⟩, ⟨(some 97), (.iad 1 (.tmp 92) (.tmp 96)), none⟩, ⟨(some 98), (.ld1 (.tmp 97)), none⟩, ⟨(some 99), (.cmp .neq (.tmp 98) (.const (.int .u64 0))), none⟩])
    (.cond (.tmp 99)
    (.seq (.reg [⟨(some 8), (.mv (.const (.bool false))), none⟩]) .ret) .skip)))
    (.reg [⟨(some 90), (.mv (.tmp 13)), none⟩, ⟨(some 91), (.ar .add (.tmp 90) (.const (.int .i64 1))), none⟩, ⟨(some 13), (.mv (.tmp 91)), none⟩]))))))
    (.seq (.seq
    (.reg [⟨(some 100), (.fad 0 (.tmp 7)), none⟩, ⟨(some 101), (.ld1 (.tmp 100)), none⟩])
    (.block 5
    (.seq (.reg [⟨(some 103), (.cmp .eql (.tmp 101) (.const (.int .i64 4))), none⟩, ⟨(some 102), (.mv (.tmp 103)), none⟩])
    (.cond (.tmp 102)
    (.seq (.reg [⟨(some 105), (.ldn 3 (.tmp 4)), none⟩, ⟨(some 106), (.mv (.tmp 1)), none⟩, ⟨(some 107), (.fad 1 (.tmp 7)), none⟩, ⟨(some 108), (.ld1 (.tmp 107)), none⟩, ⟨(some 109), (.call 49 [(.tmp 105), (.tmp 106), (.tmp 108)]), none⟩, ⟨(some 104), (.mv (.tmp 109)), none⟩, ⟨(some 110), (.ext 0 (.tmp 104)), none⟩, ⟨(some 111), (.ext 1 (.tmp 104)), none⟩, ⟨(some 14), (.alc 64 (.agg #[(.int .i64 0), (.int .i64 0), (.int .i64 0)])), none⟩, ⟨none, (.stn 3 (.tmp 14) (.tmp 110)), none⟩, ⟨(some 15), (.mv (.tmp 111)), none⟩])
    (.seq (.reg [⟨(some 112), (.fad 0 (.tmp 14)), none⟩, ⟨(some 113), (.ld1 (.tmp 112)), none⟩, ⟨(some 114), (.cmp .eql (.tmp 113) (.const (.int .i64 1))), none⟩, ⟨(some 115), (.mv (.tmp 114)), none⟩, ⟨(some 116), (.fad 0 (.tmp 14)), (some (115, false))⟩, ⟨(some 117), (.ld1 (.tmp 116)), (some (115, false))⟩, ⟨(some 118), (.cmp .eql (.tmp 117) (.const (.int .i64 3))), (some (115, false))⟩, ⟨(some 119), (.mv (.tmp 118)), (some (115, false))⟩, ⟨(some 120), (.mv (.tmp 2)), (some (119, true))⟩, ⟨(some 121), (.fad 1 (.tmp 7)), (some (119, true))⟩, ⟨(some 122), (.ld1 (.tmp 121)), (some (119, true))⟩, ⟨(some 123), (.fad 1 (.tmp 14)), (some (119, true))⟩, ⟨(some 124), (.ld1 (.tmp 123)), (some (119, true))⟩, ⟨(some 125), (.ar .add (.tmp 122) (.tmp 124)), (some (119, true))⟩, ⟨(some 126), (.cmp .lss (.tmp 120) (.tmp 125)), (some (119, true))⟩, ⟨(some 127), (.pick (.tmp 119) (.tmp 126) (.const (.bool false))), (some (115, false))⟩, ⟨(some 128), (.pick (.tmp 115) (.const (.bool true)) (.tmp 127)), none⟩, ⟨(some 8), (.mv (.tmp 128)), none⟩]) .ret))
    (.seq (.reg [⟨(some 130), (.cmp .eql (.tmp 101) (.const (.int .i64 3))), none⟩, ⟨(some 129), (.mv (.tmp 130)), none⟩])
    (.cond (.tmp 129)
    (.seq (.reg [⟨(some 16), (.mv (.const (.int .i64 1))), none⟩])
    (.block 6
    (.loop (.seq
    (.seq (.reg [⟨(some 131), (.mv (.tmp 16)), none⟩, ⟨(some 132), (.fad 1 (.tmp 7)), none⟩, ⟨(some 133), (.ld1 (.tmp 132)), none⟩, ⟨(some 134), (.cmp .lss (.tmp 131) (.tmp 133)), none⟩])
    (.cond (.tmp 134) .skip (.exit 6)))
    (.seq (.block 7
    (.seq (.reg [⟨(some 138), (.ldn 3 (.tmp 4)), none⟩, ⟨(some 139), (.mv (.tmp 1)), none⟩, ⟨(some 140), (.mv (.tmp 2)), none⟩, ⟨(some 141), (.mv (.tmp 16)), none⟩, ⟨(some 142), (.ar .add (.tmp 140) (.tmp 141)), none⟩, ⟨(some 143), (.call 49 [(.tmp 138), (.tmp 139), (.tmp 142)]), none⟩, ⟨(some 137), (.mv (.tmp 143)), none⟩, ⟨(some 144), (.ext 0 (.tmp 137)), none⟩, ⟨(some 145), (.ext 1 (.tmp 137)), none⟩, ⟨(some 17), (.alc 64 (.agg #[(.int .i64 0), (.int .i64 0), (.int .i64 0)])), none⟩, ⟨none, (.stn 3 (.tmp 17) (.tmp 144)), none⟩, ⟨(some 18), (.mv (.tmp 145)), none⟩])
    (.seq (.reg [⟨(some 146), (.fad 0 (.tmp 17)), none⟩, ⟨(some 147), (.ld1 (.tmp 146)), none⟩, ⟨(some 148), (.cmp .neq (.tmp 147) (.const (.int .i64 4))), none⟩, ⟨(some 149), (.mv (.tmp 148)), none⟩, ⟨(some 150), (.fad 1 (.tmp 17)), (some (149, false))⟩, ⟨(some 151), (.ld1 (.tmp 150)), (some (149, false))⟩, ⟨(some 152), (.mv (.tmp 2)), (some (149, false))⟩, ⟨(some 153), (.cmp .neq (.tmp 151) (.tmp 152)), (some (149, false))⟩, ⟨(some 154), (.pick (.tmp 149) (.const (.bool true)) (.tmp 153)), none⟩])
    (.cond (.tmp 154)
    (.seq (.reg [⟨(some 8), (.mv (.const (.bool false))), none⟩]) .ret) .skip))))
    (.reg [⟨(some 135), (.mv (.tmp 16)), none⟩, ⟨(some 136), (.ar .add (.tmp 135) (.const (.int .i64 1))), none⟩, ⟨(some 16), (.mv (.tmp 136)), none⟩])))))) .skip))))))
    (.seq (.reg [⟨(some 8), (.mv (.const (.bool true))), none⟩]) .ret)))))⟩ := by kernel_rfl

end Go.Proofs.YtfdhilnaagpecaaGreat
