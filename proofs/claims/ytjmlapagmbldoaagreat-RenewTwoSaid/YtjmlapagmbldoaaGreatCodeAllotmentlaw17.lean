/-
  The compact code of functions of this seat, as translated from the model: each translation holds by reckoning. Conditions: none.
-/
import Derived.Test.YtjmlapagmbldoaaGreatCode
set_option maxRecDepth 100000
namespace Go.Proofs.YtjmlapagmbldoaaGreat
open Go Go.Ev

/-- allotment/allotmentlaw17.awake -/
theorem tr4 : trF Tryz.prog pures Tryz.f4 = some
  ⟨69, [(.t 0)],
    (.seq (.reg [⟨(some 0), (.mv (.const (.bool false))), none⟩])
    (.seq (.reg [⟨(some 8), (.bld #[(.int .i64 0), (.int .i64 0), (.int .i64 0)] [(0, (1, (.const (.int .i64 3)))), (1, (1, (.const (.int .i64 1))))]), none⟩, ⟨(some 1), (.alc 27 (.agg #[(.int .i64 0), (.int .i64 0), (.int .i64 0)])), none⟩, ⟨none, (.stn 3 (.tmp 1) (.tmp 8)), none⟩])
    (.seq (.reg [⟨(some 9), (.ldn 3 (.tmp 1)), none⟩, ⟨(some 10), (.pcall 5 [(.tmp 9)]), none⟩, ⟨(some 11), (.mks 30 8 (.int .u64 0) (.tmp 10) (.tmp 10)), none⟩, ⟨(some 2), (.mv (.tmp 11)), none⟩])
    (.seq (.reg [⟨(some 12), (.mv (.tmp 2)), none⟩, ⟨(some 13), (.bld #[(.int .i64 0), (.int .i64 0), (.int .i64 0)] [(0, (1, (.const (.int .i64 3)))), (1, (1, (.const (.int .i64 1))))]), none⟩, ⟨(some 14), (.pcall 6 [(.tmp 13)]), none⟩, ⟨(some 15), (.iad 1 (.tmp 12) (.const (.int .i64 1))), none⟩, ⟨none, (.st1 (.tmp 15) (.tmp 14)), none⟩])
    (.seq (.reg [⟨(some 16), (.mv (.tmp 2)), none⟩, ⟨(some 17), (.call 8 [(.tmp 16)]), none⟩, ⟨(some 3), (.mv (.tmp 17)), none⟩])
    (.seq (.reg [⟨(some 18), (.ldn 3 (.tmp 1)), none⟩, ⟨(some 19), (.call 9 [(.tmp 18), (.const (.int .i64 0)), (.const (.int .i64 0)), (.const (.int .i64 100)), (.const (.int .i64 0))]), none⟩, ⟨(some 4), (.mv (.tmp 19)), none⟩])
    (.seq (.seq
    (.reg [⟨(some 20), (.mv (.tmp 3)), none⟩, ⟨(some 21), (.pnil false (.tmp 20)), none⟩, ⟨(some 22), (.mv (.tmp 21)), none⟩, ⟨(some 23), (.mv (.tmp 4)), (some (22, false))⟩, ⟨(some 24), (.pnil false (.tmp 23)), (some (22, false))⟩, ⟨(some 25), (.pick (.tmp 22) (.const (.bool true)) (.tmp 24)), none⟩])
    (.cond (.tmp 25)
    (.seq (.reg [⟨(some 0), (.mv (.const (.bool false))), none⟩]) .ret) .skip))
    (.seq (.seq
    (.reg [⟨(some 5), (.mv (.const (.int .i64 0))), none⟩])
    (.block 0
    (.loop (.seq
    (.seq (.reg [⟨(some 26), (.mv (.tmp 5)), none⟩, ⟨(some 27), (.cmp .lss (.tmp 26) (.const (.int .i64 40))), none⟩])
    (.cond (.tmp 27) .skip (.exit 0)))
    (.seq (.block 1
    (.reg [⟨(some 30), (.mv (.tmp 4)), none⟩, ⟨(some 31), (.mv (.tmp 3)), none⟩, ⟨(some 32), (.call 10 [(.tmp 30), (.tmp 31)]), none⟩]))
    (.reg [⟨(some 28), (.mv (.tmp 5)), none⟩, ⟨(some 29), (.ar .add (.tmp 28) (.const (.int .i64 1))), none⟩, ⟨(some 5), (.mv (.tmp 29)), none⟩]))))))
    (.seq (.reg [⟨(some 34), (.mv (.tmp 4)), none⟩, ⟨(some 35), (.call 11 [(.tmp 34)]), none⟩, ⟨(some 33), (.mv (.tmp 35)), none⟩, ⟨(some 36), (.ext 0 (.tmp 33)), none⟩, ⟨(some 37), (.ext 1 (.tmp 33)), none⟩, ⟨(some 6), (.alc 41 (.agg #[(.bool false), (.int .i64 0), (.int .i64 0), (.int .i64 0), (.int .i64 0)])), none⟩, ⟨none, (.stn 5 (.tmp 6) (.tmp 36)), none⟩, ⟨(some 7), (.mv (.tmp 37)), none⟩])
    (.seq (.reg [⟨(some 38), (.mv (.tmp 4)), none⟩, ⟨(some 39), (.call 14 [(.tmp 38)]), none⟩, ⟨(some 40), (.mv (.tmp 39)), none⟩, ⟨(some 41), (.mv (.tmp 7)), (some (40, true))⟩, ⟨(some 42), (.pick (.tmp 40) (.tmp 41) (.const (.bool false))), none⟩, ⟨(some 43), (.mv (.tmp 42)), none⟩, ⟨(some 44), (.mv (.tmp 4)), (some (43, true))⟩, ⟨(some 45), (.call 19 [(.tmp 44)]), (some (43, true))⟩, ⟨(some 46), (.pick (.tmp 43) (.tmp 45) (.const (.bool false))), none⟩, ⟨(some 47), (.mv (.tmp 46)), none⟩, ⟨(some 48), (.mv (.tmp 4)), (some (47, true))⟩, ⟨(some 49), (.call 18 [(.tmp 48)]), (some (47, true))⟩, ⟨(some 50), (.cmp .eql (.tmp 49) (.const (.int .i64 0))), (some (47, true))⟩, ⟨(some 51), (.pick (.tmp 47) (.tmp 50) (.const (.bool false))), none⟩, ⟨(some 52), (.mv (.tmp 51)), none⟩, ⟨(some 53), (.ldn 5 (.tmp 6)), (some (52, true))⟩, ⟨(some 54), (.call 16 [(.tmp 53)]), (some (52, true))⟩, ⟨(some 55), (.cmp .eql (.tmp 54) (.const (.int .i64 64))), (some (52, true))⟩, ⟨(some 56), (.pick (.tmp 52) (.tmp 55) (.const (.bool false))), none⟩, ⟨(some 57), (.mv (.tmp 56)), none⟩, ⟨(some 58), (.mv (.tmp 3)), (some (57, true))⟩, ⟨(some 59), (.call 20 [(.tmp 58), (.const (.int .i64 1))]), (some (57, true))⟩, ⟨(some 60), (.cmp .eql (.tmp 59) (.const (.int .u64 0))), (some (57, true))⟩, ⟨(some 61), (.pick (.tmp 57) (.tmp 60) (.const (.bool false))), none⟩, ⟨(some 62), (.mv (.tmp 61)), none⟩, ⟨(some 63), (.mv (.tmp 3)), (some (62, true))⟩, ⟨(some 64), (.call 20 [(.tmp 63), (.const (.int .i64 2))]), (some (62, true))⟩, ⟨(some 65), (.bld #[(.int .i64 0), (.int .i64 0), (.int .i64 0)] [(0, (1, (.const (.int .i64 3)))), (1, (1, (.const (.int .i64 2))))]), (some (62, true))⟩, ⟨(some 66), (.pcall 6 [(.tmp 65)]), (some (62, true))⟩, ⟨(some 67), (.cmp .eql (.tmp 64) (.tmp 66)), (some (62, true))⟩, ⟨(some 68), (.pick (.tmp 62) (.tmp 67) (.const (.bool false))), none⟩, ⟨(some 0), (.mv (.tmp 68)), none⟩]) .ret))))))))))⟩ := by kernel_rfl

end Go.Proofs.YtjmlapagmbldoaaGreat
