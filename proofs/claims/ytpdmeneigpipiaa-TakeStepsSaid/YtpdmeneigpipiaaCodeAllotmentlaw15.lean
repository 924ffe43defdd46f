/-
  The compact code of functions of this seat, as translated from the model: each translation holds by reckoning. Conditions: none.
-/
import Derived.Test.YtpdmeneigpipiaaCode
set_option maxRecDepth 100000
namespace Go.Proofs.Ytpdmeneigpipiaa
open Go Go.Ev

/-- allotment/allotmentlaw15.awake -/
theorem tr19 : trF Try.prog pures Try.f19 = some
  ⟨69, [(.t 0)],
    (.seq (.reg [⟨(some 0), (.mv (.const (.bool false))), none⟩])
    (.seq (.reg [⟨(some 7), (.bld #[(.int .i64 0), (.int .i64 0), (.int .i64 0)] [(0, (1, (.const (.int .i64 1)))), (1, (1, (.const (.int .i64 1))))]), none⟩, ⟨(some 1), (.alc 25 (.agg #[(.int .i64 0), (.int .i64 0), (.int .i64 0)])), none⟩, ⟨none, (.stn 3 (.tmp 1) (.tmp 7)), none⟩])
    (.seq (.reg [⟨(some 8), (.ldn 3 (.tmp 1)), none⟩, ⟨(some 9), (.pcall 31 [(.tmp 8)]), none⟩, ⟨(some 10), (.mks 42 8 (.int .u64 0) (.tmp 9) (.tmp 9)), none⟩, ⟨(some 11), (.call 7 [(.tmp 10)]), none⟩, ⟨(some 2), (.mv (.tmp 11)), none⟩])
    (.seq (.reg [⟨(some 12), (.ldn 3 (.tmp 1)), none⟩, ⟨(some 13), (.call 24 [(.tmp 12), (.const (.int .i64 0)), (.const (.int .i64 64)), (.const (.int .i64 0))]), none⟩, ⟨(some 3), (.mv (.tmp 13)), none⟩])
    (.seq (.seq
    (.reg [⟨(some 14), (.mv (.tmp 2)), none⟩, ⟨(some 15), (.pnil false (.tmp 14)), none⟩, ⟨(some 16), (.mv (.tmp 15)), none⟩, ⟨(some 17), (.mv (.tmp 3)), (some (16, false))⟩, ⟨(some 18), (.pnil false (.tmp 17)), (some (16, false))⟩, ⟨(some 19), (.pick (.tmp 16) (.const (.bool true)) (.tmp 18)), none⟩])
    (.cond (.tmp 19)
    (.seq (.reg [⟨(some 0), (.mv (.const (.bool false))), none⟩]) .ret) .skip))
    (.seq (.reg [⟨(some 20), (.mv (.tmp 3)), none⟩, ⟨(some 21), (.mv (.tmp 2)), none⟩, ⟨(some 22), (.call 27 [(.tmp 20), (.tmp 21)]), none⟩])
    (.seq (.reg [⟨(some 23), (.mv (.tmp 3)), none⟩, ⟨(some 24), (.mv (.tmp 2)), none⟩, ⟨(some 25), (.call 27 [(.tmp 23), (.tmp 24)]), none⟩])
    (.seq (.reg [⟨(some 27), (.mv (.tmp 3)), none⟩, ⟨(some 28), (.call 46 [(.tmp 27)]), none⟩, ⟨(some 26), (.mv (.tmp 28)), none⟩, ⟨(some 29), (.ext 0 (.tmp 26)), none⟩, ⟨(some 30), (.ext 1 (.tmp 26)), none⟩, ⟨(some 4), (.alc 52 (.agg #[(.bool false), (.int .i64 0), (.int .i64 0), (.int .i64 0), (.int .i64 0)])), none⟩, ⟨none, (.stn 5 (.tmp 4) (.tmp 29)), none⟩, ⟨(some 5), (.mv (.tmp 30)), none⟩])
    (.seq (.reg [⟨(some 31), (.ldn 3 (.tmp 1)), none⟩, ⟨(some 32), (.ldn 5 (.tmp 4)), none⟩, ⟨(some 33), (.call 47 [(.tmp 31), (.const (.int .i64 0)), (.tmp 32)]), none⟩, ⟨(some 6), (.mv (.tmp 33)), none⟩])
    (.seq (.seq
    (.reg [⟨(some 34), (.mv (.tmp 6)), none⟩, ⟨(some 35), (.pnil false (.tmp 34)), none⟩])
    (.cond (.tmp 35)
    (.seq (.reg [⟨(some 0), (.mv (.const (.bool false))), none⟩]) .ret) .skip))
    (.seq (.reg [⟨(some 36), (.mv (.tmp 6)), none⟩, ⟨(some 37), (.mv (.tmp 2)), none⟩, ⟨(some 38), (.call 48 [(.tmp 36), (.tmp 37)]), none⟩])
    (.seq (.reg [⟨(some 39), (.mv (.tmp 3)), none⟩, ⟨(some 40), (.call 26 [(.tmp 39)]), none⟩, ⟨(some 41), (.mv (.tmp 40)), none⟩, ⟨(some 42), (.mv (.tmp 5)), (some (41, true))⟩, ⟨(some 43), (.pick (.tmp 41) (.tmp 42) (.const (.bool false))), none⟩, ⟨(some 44), (.mv (.tmp 43)), none⟩, ⟨(some 45), (.fad 0 (.tmp 4)), (some (44, true))⟩, ⟨(some 46), (.ld1 (.tmp 45)), (some (44, true))⟩, ⟨(some 47), (.pick (.tmp 44) (.tmp 46) (.const (.bool false))), none⟩, ⟨(some 48), (.mv (.tmp 47)), none⟩, ⟨(some 49), (.ldn 5 (.tmp 4)), (some (48, true))⟩, ⟨(some 50), (.call 22 [(.tmp 49)]), (some (48, true))⟩, ⟨(some 51), (.cmp .eql (.tmp 50) (.const (.int .i64 64))), (some (48, true))⟩, ⟨(some 52), (.pick (.tmp 48) (.tmp 51) (.const (.bool false))), none⟩, ⟨(some 53), (.mv (.tmp 52)), none⟩, ⟨(some 54), (.ldn 5 (.tmp 4)), (some (53, true))⟩, ⟨(some 55), (.call 21 [(.tmp 54)]), (some (53, true))⟩, ⟨(some 56), (.cmp .eql (.tmp 55) (.const (.int .i64 0))), (some (53, true))⟩, ⟨(some 57), (.pick (.tmp 53) (.tmp 56) (.const (.bool false))), none⟩, ⟨(some 58), (.mv (.tmp 57)), none⟩, ⟨(some 59), (.mv (.tmp 6)), (some (58, true))⟩, ⟨(some 60), (.call 49 [(.tmp 59)]), (some (58, true))⟩, ⟨(some 61), (.pick (.tmp 58) (.tmp 60) (.const (.bool false))), none⟩, ⟨(some 62), (.mv (.tmp 61)), none⟩, ⟨(some 63), (.mv (.tmp 2)), (some (62, true))⟩, ⟨(some 64), (.call 14 [(.tmp 63), (.const (.int .i64 1))]), (some (62, true))⟩, ⟨(some 65), (.bld #[(.int .i64 0), (.int .i64 0), (.int .i64 0)] [(0, (1, (.const (.int .i64 3)))), (1, (1, (.const (.int .i64 1))))]), (some (62, true))⟩, ⟨(some 66), (.pcall 42 [(.tmp 65)]), (some (62, true))⟩, ⟨(some 67), (.cmp .eql (.tmp 64) (.tmp 66)), (some (62, true))⟩, ⟨(some 68), (.pick (.tmp 62) (.tmp 67) (.const (.bool false))), none⟩, ⟨(some 0), (.mv (.tmp 68)), none⟩]) .ret))))))))))))⟩ := by kernel_rfl

/-- allotment/allotmentlaw15.TakeBlocks -/
theorem tr4 : trF Try.prog pures Try.f4 = some
  ⟨75, [(.t 6)],
    (.seq (.reg [⟨(some 6), (.mv (.const (.bool false))), none⟩])
    (.seq (.seq
    (.reg [⟨(some 14), (.call 19 []), none⟩, ⟨(some 15), (.nt (.tmp 14)), none⟩])
    (.cond (.tmp 15)
    (.seq (.reg [⟨(some 6), (.mv (.const (.bool false))), none⟩]) .ret) .skip))
    (.seq (.reg [⟨(some 16), (.mv (.tmp 0)), none⟩, ⟨(some 17), (.cv .i64 (.tmp 16)), none⟩, ⟨(some 18), (.dv .rem (.tmp 17) (.const (.int .i64 64))), none⟩, ⟨(some 19), (.mv (.tmp 1)), none⟩, ⟨(some 20), (.cv .i64 (.tmp 19)), none⟩, ⟨(some 21), (.dv .rem (.tmp 20) (.const (.int .i64 4))), none⟩, ⟨(some 22), (.mv (.tmp 2)), none⟩, ⟨(some 23), (.cv .i64 (.tmp 22)), none⟩, ⟨(some 24), (.dv .rem (.tmp 23) (.const (.int .i64 8))), none⟩, ⟨(some 25), (.ar .add (.const (.int .i64 1)) (.tmp 24)), none⟩, ⟨(some 7), (.mv (.tmp 18)), none⟩, ⟨(some 8), (.mv (.tmp 21)), none⟩, ⟨(some 9), (.mv (.tmp 25)), none⟩])
    (.seq (.reg [⟨(some 26), (.mv (.tmp 7)), none⟩, ⟨(some 27), (.ar .mul (.tmp 26) (.const (.int .i64 64))), none⟩, ⟨(some 10), (.mv (.tmp 27)), none⟩])
    (.seq (.seq
    (.reg [⟨(some 11), (.mv (.const (.int .i64 0))), none⟩])
    (.block 0
    (.loop (.seq
    (.seq (.reg [⟨(some 28), (.mv (.tmp 11)), none⟩, ⟨(some 29), (.mv (.tmp 8)), none⟩, ⟨(some 30), (.pcall 20 [(.tmp 29)]), none⟩, ⟨(some 31), (.cmp .lss (.tmp 28) (.tmp 30)), none⟩])
    (.cond (.tmp 31) .skip (.exit 0)))
    (.seq (.block 1
    (.seq (.reg [⟨(some 34), (.mv (.tmp 7)), none⟩, ⟨(some 35), (.mv (.tmp 11)), none⟩, ⟨(some 36), (.mv (.tmp 8)), none⟩, ⟨(some 37), (.bld #[(.bool false), (.int .i64 0), (.int .i64 0), (.int .i64 0), (.int .i64 0)] [(1, (1, (.tmp 34))), (2, (1, (.tmp 35))), (3, (1, (.tmp 36)))]), none⟩, ⟨(some 12), (.alc 52 (.agg #[(.bool false), (.int .i64 0), (.int .i64 0), (.int .i64 0), (.int .i64 0)])), none⟩, ⟨none, (.stn 5 (.tmp 12) (.tmp 37)), none⟩])
    (.seq (.seq
    (.reg [⟨(some 38), (.ldn 5 (.tmp 12)), none⟩, ⟨(some 39), (.call 21 [(.tmp 38)]), none⟩, ⟨(some 40), (.mv (.tmp 10)), none⟩, ⟨(some 41), (.cmp .neq (.tmp 39) (.tmp 40)), none⟩, ⟨(some 42), (.mv (.tmp 41)), none⟩, ⟨(some 43), (.ldn 5 (.tmp 12)), (some (42, false))⟩, ⟨(some 44), (.call 22 [(.tmp 43)]), (some (42, false))⟩, ⟨(some 45), (.mv (.tmp 8)), (some (42, false))⟩, ⟨(some 46), (.pcall 18 [(.tmp 45)]), (some (42, false))⟩, ⟨(some 47), (.cmp .neq (.tmp 44) (.tmp 46)), (some (42, false))⟩, ⟨(some 48), (.pick (.tmp 42) (.const (.bool true)) (.tmp 47)), none⟩])
    (.cond (.tmp 48)
    (.seq (.reg [⟨(some 6), (.mv (.const (.bool false))), none⟩]) .ret) .skip))
    (.reg [⟨(some 49), (.mv (.tmp 10)), none⟩, ⟨(some 50), (.ldn 5 (.tmp 12)), none⟩, ⟨(some 51), (.call 22 [(.tmp 50)]), none⟩, ⟨(some 52), (.ar .add (.tmp 49) (.tmp 51)), none⟩, ⟨(some 10), (.mv (.tmp 52)), none⟩]))))
    (.reg [⟨(some 32), (.mv (.tmp 11)), none⟩, ⟨(some 33), (.ar .add (.tmp 32) (.const (.int .i64 1))), none⟩, ⟨(some 11), (.mv (.tmp 33)), none⟩]))))))
    (.seq (.reg [⟨(some 53), (.mv (.tmp 7)), none⟩, ⟨(some 54), (.mv (.tmp 9)), none⟩, ⟨(some 55), (.bld #[(.bool false), (.int .i64 0), (.int .i64 0), (.int .i64 0), (.int .i64 0)] [(0, (1, (.const (.bool true)))), (1, (1, (.tmp 53))), (4, (1, (.tmp 54)))]), none⟩, ⟨(some 13), (.alc 52 (.agg #[(.bool false), (.int .i64 0), (.int .i64 0), (.int .i64 0), (.int .i64 0)])), none⟩, ⟨none, (.stn 5 (.tmp 13) (.tmp 55)), none⟩])
    (.seq (.reg [⟨(some 56), (.mv (.tmp 10)), none⟩, ⟨(some 57), (.mv (.tmp 7)), none⟩, ⟨(some 58), (.ar .add (.tmp 57) (.const (.int .i64 1))), none⟩, ⟨(some 59), (.ar .mul (.tmp 58) (.const (.int .i64 64))), none⟩, ⟨(some 60), (.cmp .eql (.tmp 56) (.tmp 59)), none⟩, ⟨(some 61), (.mv (.tmp 60)), none⟩, ⟨(some 62), (.ldn 5 (.tmp 13)), (some (61, true))⟩, ⟨(some 63), (.call 21 [(.tmp 62)]), (some (61, true))⟩, ⟨(some 64), (.mv (.tmp 7)), (some (61, true))⟩, ⟨(some 65), (.ar .mul (.tmp 64) (.const (.int .i64 64))), (some (61, true))⟩, ⟨(some 66), (.cmp .eql (.tmp 63) (.tmp 65)), (some (61, true))⟩, ⟨(some 67), (.pick (.tmp 61) (.tmp 66) (.const (.bool false))), none⟩, ⟨(some 68), (.mv (.tmp 67)), none⟩, ⟨(some 69), (.ldn 5 (.tmp 13)), (some (68, true))⟩, ⟨(some 70), (.call 22 [(.tmp 69)]), (some (68, true))⟩, ⟨(some 71), (.mv (.tmp 9)), (some (68, true))⟩, ⟨(some 72), (.ar .mul (.tmp 71) (.const (.int .i64 64))), (some (68, true))⟩, ⟨(some 73), (.cmp .eql (.tmp 70) (.tmp 72)), (some (68, true))⟩, ⟨(some 74), (.pick (.tmp 68) (.tmp 73) (.const (.bool false))), none⟩, ⟨(some 6), (.mv (.tmp 74)), none⟩]) .ret)))))))⟩ := by kernel_rfl

/-- allotment/allotmentlaw15.TakeSteps -/
theorem tr5 : trF Try.prog pures Try.f5 = some
  ⟨103, [(.t 6)],
    (.seq (.reg [⟨(some 3), (.box 25 (.tmp 0)), none⟩, ⟨(some 5), (.box 55 (.tmp 2)), none⟩, ⟨(some 6), (.mv (.const (.bool false))), none⟩])
    (.seq (.seq
    (.reg [⟨(some 14), (.call 19 []), none⟩, ⟨(some 15), (.nt (.tmp 14)), none⟩])
    (.cond (.tmp 15)
    (.seq (.reg [⟨(some 6), (.mv (.const (.bool false))), none⟩]) .ret) .skip))
    (.seq (.seq
    (.reg [⟨(some 16), (.ldn 3 (.tmp 3)), none⟩, ⟨(some 17), (.mv (.tmp 1)), none⟩, ⟨(some 18), (.call 23 [(.tmp 16), (.tmp 17)]), none⟩, ⟨(some 19), (.nt (.tmp 18)), none⟩, ⟨(some 20), (.mv (.tmp 19)), none⟩, ⟨(some 21), (.fad 1 (.tmp 3)), (some (20, false))⟩, ⟨(some 22), (.ld1 (.tmp 21)), (some (20, false))⟩, ⟨(some 23), (.cmp .lss (.tmp 22) (.const (.int .i64 2))), (some (20, false))⟩, ⟨(some 24), (.pick (.tmp 20) (.const (.bool true)) (.tmp 23)), none⟩])
    (.cond (.tmp 24)
    (.seq (.reg [⟨(some 6), (.mv (.const (.bool true))), none⟩]) .ret) .skip))
    (.seq (.reg [⟨(some 25), (.mv (.tmp 1)), none⟩, ⟨(some 26), (.call 7 [(.tmp 25)]), none⟩, ⟨(some 7), (.mv (.tmp 26)), none⟩])
    (.seq (.draw (.take ⟨(some 27), (.ldn 3 (.tmp 3)), none⟩ (.take ⟨(some 28), (.iadA 4 1 (.tmp 5) (.const (.int .i64 0))), none⟩ (.take ⟨(some 29), (.ld1 (.tmp 28)), none⟩ (.take ⟨(some 30), (.iadA 4 1 (.tmp 5) (.const (.int .i64 1))), none⟩ (.take ⟨(some 31), (.ld1 (.tmp 30)), none⟩ (.take ⟨(some 33), (.ldn 3 (.tmp 3)), none⟩ (.take ⟨(some 34), (.iadA 4 1 (.tmp 5) (.const (.int .i64 2))), none⟩ (.take ⟨(some 35), (.ld1 (.tmp 34)), none⟩ (.take ⟨(some 36), (.iadA 4 1 (.tmp 5) (.const (.int .i64 3))), none⟩ (.take ⟨(some 37), (.ld1 (.tmp 36)), none⟩ (.alt false ⟨(some 32), (.call 24 [(.tmp 27), (.const (.int .i64 0)), (.tmp 29), (.tmp 31)]), none⟩ (.alt false ⟨(some 38), (.call 24 [(.tmp 33), (.const (.int .i64 1)), (.tmp 35), (.tmp 37)]), none⟩ (.take ⟨(some 8), (.mv (.tmp 32)), none⟩ (.take ⟨(some 9), (.mv (.tmp 38)), none⟩ .done)) .stop) .stop))))))))))))
    (.seq (.seq
    (.reg [⟨(some 39), (.mv (.tmp 7)), none⟩, ⟨(some 40), (.pnil false (.tmp 39)), none⟩, ⟨(some 41), (.mv (.tmp 40)), none⟩, ⟨(some 42), (.mv (.tmp 8)), (some (41, false))⟩, ⟨(some 43), (.pnil false (.tmp 42)), (some (41, false))⟩, ⟨(some 44), (.pick (.tmp 41) (.const (.bool true)) (.tmp 43)), none⟩, ⟨(some 45), (.mv (.tmp 44)), none⟩, ⟨(some 46), (.mv (.tmp 9)), (some (45, false))⟩, ⟨(some 47), (.pnil false (.tmp 46)), (some (45, false))⟩, ⟨(some 48), (.pick (.tmp 45) (.const (.bool true)) (.tmp 47)), none⟩])
    (.cond (.tmp 48)
    (.seq (.reg [⟨(some 6), (.mv (.const (.bool false))), none⟩]) .ret) .skip))
    (.seq (.reg [⟨(some 49), (.ldn 3 (.tmp 3)), none⟩, ⟨(some 50), (.pcall 25 [(.tmp 49)]), none⟩, ⟨(some 10), (.mv (.tmp 50)), none⟩])
    (.seq (.reg [⟨(some 11), (.mv (.const (.int .i64 0))), none⟩, ⟨(some 12), (.mv (.const (.int .i64 0))), none⟩])
    (.seq (.seq
    (.reg [⟨(some 13), (.mv (.const (.int .i64 0))), none⟩])
    (.block 0
    (.loop (.seq
    (.seq (.reg [⟨(some 51), (.mv (.tmp 13)), none⟩, ⟨(some 52), (.mv (.tmp 10)), none⟩, ⟨(some 53), (.ar .mul (.const (.int .i64 2)) (.tmp 52)), none⟩, ⟨(some 54), (.ar .add (.tmp 53) (.const (.int .i64 10))), none⟩, ⟨(some 55), (.cmp .lss (.tmp 51) (.tmp 54)), none⟩])
    (.cond (.tmp 55) .skip (.exit 0)))
    (.seq (.block 1
    (.seq (.seq
    (.reg [⟨(some 58), (.mv (.tmp 8)), none⟩, ⟨(some 59), (.call 26 [(.tmp 58)]), none⟩, ⟨(some 60), (.nt (.tmp 59)), none⟩])
    (.cond (.tmp 60)
    (.seq (.reg [⟨(some 61), (.mv (.tmp 8)), none⟩, ⟨(some 62), (.mv (.tmp 7)), none⟩, ⟨(some 63), (.call 27 [(.tmp 61), (.tmp 62)]), none⟩])
    (.reg [⟨(some 64), (.mv (.tmp 11)), none⟩, ⟨(some 65), (.ar .add (.tmp 64) (.const (.int .i64 1))), none⟩, ⟨(some 11), (.mv (.tmp 65)), none⟩])) .skip))
    (.seq (.reg [⟨(some 66), (.mv (.tmp 9)), none⟩, ⟨(some 67), (.call 26 [(.tmp 66)]), none⟩, ⟨(some 68), (.nt (.tmp 67)), none⟩, ⟨(some 69), (.mv (.tmp 68)), none⟩, ⟨(some 70), (.mv (.tmp 13)), (some (69, true))⟩, ⟨(some 71), (.dv .rem (.tmp 70) (.const (.int .i64 3))), (some (69, true))⟩, ⟨(some 72), (.cmp .neq (.tmp 71) (.const (.int .i64 1))), (some (69, true))⟩, ⟨(some 73), (.pick (.tmp 69) (.tmp 72) (.const (.bool false))), none⟩])
    (.cond (.tmp 73)
    (.seq (.reg [⟨(some 74), (.mv (.tmp 9)), none⟩, ⟨(some 75), (.mv (.tmp 7)), none⟩, ⟨(some 76), (.call 27 [(.tmp 74), (.tmp 75)]), none⟩])
    (.reg [⟨(some 77), (.mv (.tmp 12)), none⟩, ⟨(some 78), (.ar .add (.tmp 77) (.const (.int .i64 1))), none⟩, ⟨(some 12), (.mv (.tmp 78)), none⟩])) .skip))))
    (.reg [⟨(some 56), (.mv (.tmp 13)), none⟩, ⟨(some 57), (.ar .add (.tmp 56) (.const (.int .i64 1))), none⟩, ⟨(some 13), (.mv (.tmp 57)), none⟩]))))))
    (.seq (.reg [⟨(some 79), (.mv (.tmp 8)), none⟩, ⟨(some 80), (.call 26 [(.tmp 79)]), none⟩, ⟨(some 81), (.mv (.tmp 80)), none⟩, ⟨(some 82), (.mv (.tmp 9)), (some (81, true))⟩, ⟨(some 83), (.call 26 [(.tmp 82)]), (some (81, true))⟩, ⟨(some 84), (.pick (.tmp 81) (.tmp 83) (.const (.bool false))), none⟩, ⟨(some 85), (.mv (.tmp 84)), none⟩, ⟨(some 86), (.mv (.tmp 11)), (some (85, true))⟩, ⟨(some 87), (.mv (.tmp 10)), (some (85, true))⟩, ⟨(some 88), (.cmp .leq (.tmp 86) (.tmp 87)), (some (85, true))⟩, ⟨(some 89), (.pick (.tmp 85) (.tmp 88) (.const (.bool false))), none⟩, ⟨(some 90), (.mv (.tmp 89)), none⟩, ⟨(some 91), (.mv (.tmp 12)), (some (90, true))⟩, ⟨(some 92), (.mv (.tmp 10)), (some (90, true))⟩, ⟨(some 93), (.cmp .leq (.tmp 91) (.tmp 92)), (some (90, true))⟩, ⟨(some 94), (.pick (.tmp 90) (.tmp 93) (.const (.bool false))), none⟩, ⟨(some 95), (.mv (.tmp 94)), none⟩, ⟨(some 96), (.mv (.tmp 7)), (some (95, true))⟩, ⟨(some 97), (.call 28 [(.tmp 96)]), (some (95, true))⟩, ⟨(some 98), (.mv (.tmp 11)), (some (95, true))⟩, ⟨(some 99), (.mv (.tmp 12)), (some (95, true))⟩, ⟨(some 100), (.ar .add (.tmp 98) (.tmp 99)), (some (95, true))⟩, ⟨(some 101), (.cmp .eql (.tmp 97) (.tmp 100)), (some (95, true))⟩, ⟨(some 102), (.pick (.tmp 95) (.tmp 101) (.const (.bool false))), none⟩, ⟨(some 6), (.mv (.tmp 102)), none⟩]) .ret))))))))))⟩ := by kernel_rfl

end Go.Proofs.Ytpdmeneigpipiaa
