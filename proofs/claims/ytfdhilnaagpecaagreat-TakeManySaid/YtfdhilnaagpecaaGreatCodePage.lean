/-
  The compact code of functions of this seat, as translated from the model: each translation holds by reckoning. Conditions: none.
-/
import Derived.Test.YtfdhilnaagpecaaGreatCode
set_option maxRecDepth 100000
namespace Go.Proofs.YtfdhilnaagpecaaGreat
open Go Go.Ev

/-- (*allotment/page.Claimer).page -/
theorem tr102 : trF Tryz.prog pures Tryz.f102 = some
  ⟨18, [(.t 2)],
    (.seq (.reg [⟨(some 2), (.mv (.const (.int .i64 0))), none⟩])
    (.seq (.reg [⟨(some 3), (.mv (.tmp 0)), none⟩, ⟨(some 4), (.nilck (.tmp 3)), none⟩, ⟨(some 5), (.fad 4 (.tmp 4)), none⟩, ⟨(some 6), (.ld1 (.tmp 5)), none⟩, ⟨(some 7), (.mv (.tmp 0)), none⟩, ⟨(some 8), (.nilck (.tmp 7)), none⟩, ⟨(some 9), (.fad 5 (.tmp 8)), none⟩, ⟨(some 10), (.ld1 (.tmp 9)), none⟩, ⟨(some 11), (.ar .add (.tmp 6) (.tmp 10)), none⟩, ⟨(some 12), (.mv (.tmp 0)), none⟩, ⟨(some 13), (.nilck (.tmp 12)), none⟩, ⟨(some 14), (.fad 0 (.tmp 13)), none⟩, ⟨(some 15), (.fad 0 (.tmp 14)), none⟩, ⟨(some 16), (.ld1 (.tmp 15)), none⟩, ⟨(some 17), (.dv .rem (.tmp 11) (.tmp 16)), none⟩, ⟨(some 2), (.mv (.tmp 17)), none⟩]) .ret))⟩ := by kernel_rfl

/-- (*allotment/page.Claimer).Done -/
theorem tr130 : trF Tryz.prog pures Tryz.f130 = some
  ⟨11, [(.t 2)],
    (.seq (.reg [⟨(some 2), (.mv (.const (.bool false))), none⟩])
    (.seq (.reg [⟨(some 3), (.mv (.tmp 0)), none⟩, ⟨(some 4), (.pnil true (.tmp 3)), none⟩, ⟨(some 5), (.mv (.tmp 4)), none⟩, ⟨(some 6), (.mv (.tmp 0)), (some (5, true))⟩, ⟨(some 7), (.nilck (.tmp 6)), (some (5, true))⟩, ⟨(some 8), (.fad 8 (.tmp 7)), (some (5, true))⟩, ⟨(some 9), (.ld1 (.tmp 8)), (some (5, true))⟩, ⟨(some 10), (.pick (.tmp 5) (.tmp 9) (.const (.bool false))), none⟩, ⟨(some 2), (.mv (.tmp 10)), none⟩]) .ret))⟩ := by kernel_rfl

/-- (*allotment/page.Claimer).Step -/
theorem tr131 : trF Tryz.prog pures Tryz.f131 = some
  ⟨84, [],
    (.seq (.seq
    (.reg [⟨(some 5), (.mv (.tmp 0)), none⟩, ⟨(some 6), (.pnil false (.tmp 5)), none⟩, ⟨(some 7), (.mv (.tmp 6)), none⟩, ⟨(some 8), (.mv (.tmp 0)), (some (7, false))⟩, ⟨(some 9), (.nilck (.tmp 8)), (some (7, false))⟩, ⟨(some 10), (.fad 8 (.tmp 9)), (some (7, false))⟩, ⟨(some 11), (.ld1 (.tmp 10)), (some (7, false))⟩, ⟨(some 12), (.pick (.tmp 7) (.const (.bool true)) (.tmp 11)), none⟩])
    (.cond (.tmp 12) .ret .skip))
    (.seq (.draw (.take ⟨(some 13), (.mv (.tmp 0)), none⟩ (.take ⟨(some 14), (.nilck (.tmp 13)), none⟩ (.take ⟨(some 15), (.fad 0 (.tmp 14)), none⟩ (.take ⟨(some 16), (.ldn 3 (.tmp 15)), none⟩ (.take ⟨(some 17), (.mv (.tmp 0)), none⟩ (.alt false ⟨(some 18), (.call 102 [(.tmp 17)]), none⟩ (.alt false ⟨(some 19), (.pcall 34 [(.tmp 16), (.tmp 18)]), none⟩ (.take ⟨(some 4), (.mv (.tmp 19)), none⟩ .done) .stop) .stop)))))))
    (.seq (.block 0
    (.seq (.reg [⟨(some 21), (.mv (.tmp 0)), none⟩, ⟨(some 22), (.nilck (.tmp 21)), none⟩, ⟨(some 23), (.fad 6 (.tmp 22)), none⟩, ⟨(some 24), (.ld1 (.tmp 23)), none⟩, ⟨(some 25), (.nt (.tmp 24)), none⟩, ⟨(some 20), (.mv (.tmp 25)), none⟩])
    (.cond (.tmp 20)
    (.seq (.reg [⟨(some 26), (.mv (.tmp 0)), none⟩, ⟨(some 27), (.mv (.tmp 1)), none⟩, ⟨(some 28), (.mv (.tmp 0)), none⟩, ⟨(some 29), (.nilck (.tmp 28)), none⟩, ⟨(some 30), (.fad 3 (.tmp 29)), none⟩, ⟨(some 31), (.ld1 (.tmp 30)), none⟩, ⟨(some 32), (.mv (.tmp 4)), none⟩, ⟨(some 33), (.call 71 [(.tmp 27), (.tmp 31), (.tmp 32)]), none⟩, ⟨(some 34), (.cmp .eql (.tmp 33) (.const (.int .u64 0))), none⟩, ⟨(some 35), (.nilck (.tmp 26)), none⟩, ⟨(some 36), (.fad 6 (.tmp 35)), none⟩, ⟨none, (.st1 (.tmp 36) (.tmp 34)), none⟩])
    (.seq (.reg [⟨(some 37), (.mv (.tmp 0)), none⟩, ⟨(some 38), (.nilck (.tmp 37)), none⟩, ⟨(some 39), (.fad 6 (.tmp 38)), none⟩, ⟨(some 40), (.ld1 (.tmp 39)), none⟩])
    (.cond (.tmp 40) .ret .skip)))
    (.seq (.draw (.take ⟨(some 42), (.mv (.tmp 1)), none⟩ (.take ⟨(some 43), (.mv (.tmp 0)), none⟩ (.take ⟨(some 44), (.nilck (.tmp 43)), none⟩ (.take ⟨(some 45), (.fad 3 (.tmp 44)), none⟩ (.take ⟨(some 46), (.ld1 (.tmp 45)), none⟩ (.take ⟨(some 47), (.mv (.tmp 4)), none⟩ (.take ⟨(some 48), (.mv (.tmp 0)), none⟩ (.take ⟨(some 49), (.nilck (.tmp 48)), none⟩ (.take ⟨(some 50), (.fad 3 (.tmp 49)), none⟩ (.take ⟨(some 51), (.ld1 (.tmp 50)), none⟩ (.take ⟨(some 52), (.bld #[(.int .i64 0), (.int .i64 0), (.int .i64 0)] [(0, (1, (.const (.int .i64 1)))), (1, (1, (.tmp 51)))]), none⟩ (.alt false ⟨(some 53), (.pcall 35 [(.tmp 52)]), none⟩ (.alt false ⟨(some 54), (.call 75 [(.tmp 42), (.tmp 46), (.tmp 47), (.const (.int .u64 0)), (.tmp 53)]), none⟩ (.take ⟨(some 41), (.mv (.tmp 54)), none⟩ .done) .stop) .stop)))))))))))))
    (.cond (.tmp 41)
    (.seq (.reg [⟨(some 55), (.mv (.tmp 0)), none⟩, ⟨(some 56), (.mv (.tmp 0)), none⟩, ⟨(some 57), (.nilck (.tmp 55)), none⟩, ⟨(some 58), (.fad 7 (.tmp 57)), none⟩, ⟨none, (.st1 (.tmp 58) (.const (.bool true))), none⟩, ⟨(some 59), (.nilck (.tmp 56)), none⟩, ⟨(some 60), (.fad 8 (.tmp 59)), none⟩, ⟨none, (.st1 (.tmp 60) (.const (.bool true))), none⟩]) .ret) .skip)))))
    (.seq (.reg [⟨(some 61), (.mv (.tmp 0)), none⟩, ⟨(some 62), (.nilck (.tmp 61)), none⟩, ⟨(some 63), (.fad 6 (.tmp 62)), none⟩, ⟨none, (.st1 (.tmp 63) (.const (.bool false))), none⟩])
    (.seq (.reg [⟨(some 64), (.mv (.tmp 0)), none⟩, ⟨(some 65), (.nilck (.tmp 64)), none⟩, ⟨(some 66), (.fad 5 (.tmp 65)), none⟩, ⟨(some 67), (.ld1 (.tmp 66)), none⟩, ⟨(some 68), (.ar .add (.tmp 67) (.const (.int .i64 1))), none⟩, ⟨(some 69), (.nilck (.tmp 64)), none⟩, ⟨(some 70), (.fad 5 (.tmp 69)), none⟩, ⟨none, (.st1 (.tmp 70) (.tmp 68)), none⟩])
    (.draw (.take ⟨(some 71), (.mv (.tmp 0)), none⟩ (.take ⟨(some 72), (.mv (.tmp 0)), none⟩ (.take ⟨(some 73), (.nilck (.tmp 72)), none⟩ (.take ⟨(some 74), (.fad 5 (.tmp 73)), none⟩ (.take ⟨(some 75), (.ld1 (.tmp 74)), none⟩ (.take ⟨(some 76), (.mv (.tmp 0)), none⟩ (.take ⟨(some 77), (.nilck (.tmp 76)), none⟩ (.take ⟨(some 78), (.fad 0 (.tmp 77)), none⟩ (.take ⟨(some 79), (.fad 0 (.tmp 78)), none⟩ (.take ⟨(some 80), (.ld1 (.tmp 79)), none⟩ (.take ⟨(some 81), (.cmp .eql (.tmp 75) (.tmp 80)), none⟩ (.take ⟨(some 82), (.nilck (.tmp 71)), none⟩ (.take ⟨(some 83), (.fad 8 (.tmp 82)), none⟩ (.alt true ⟨none, (.st1 (.tmp 83) (.tmp 81)), none⟩ .done .stop))))))))))))))))))))⟩ := by kernel_rfl

/-- allotment/page.NewClaimer -/
theorem tr98 : trF Tryz.prog pures Tryz.f98 = some
  ⟨22, [(.t 6)],
    (.seq (.reg [⟨(some 3), (.box 26 (.tmp 0)), none⟩, ⟨(some 6), (.mv (.const (.pointer none))), none⟩])
    (.seq (.draw (.take ⟨(some 7), (.ldn 3 (.tmp 3)), none⟩ (.take ⟨(some 8), (.mv (.tmp 1)), none⟩ (.take ⟨(some 9), (.mv (.tmp 2)), none⟩ (.take ⟨(some 10), (.ldn 3 (.tmp 3)), none⟩ (.take ⟨(some 11), (.mv (.tmp 1)), none⟩ (.alt false ⟨(some 12), (.pcall 61 [(.tmp 10), (.tmp 11)]), none⟩ (.take ⟨(some 13), (.cmp .lss (.tmp 12) (.const (.int .i64 0))), none⟩ (.take ⟨(some 14), (.mv (.tmp 13)), none⟩ (.take ⟨(some 15), (.ldn 3 (.tmp 3)), (some (14, false))⟩ (.take ⟨(some 16), (.mv (.tmp 2)), (some (14, false))⟩ (.alt false ⟨(some 17), (.pcall 34 [(.tmp 15), (.tmp 16)]), (some (14, false))⟩ (.take ⟨(some 18), (.cmp .lss (.tmp 17) (.const (.int .i64 0))), (some (14, false))⟩ (.take ⟨(some 19), (.pick (.tmp 14) (.const (.bool true)) (.tmp 18)), none⟩ (.take ⟨(some 20), (.bld #[(.int .i64 0), (.int .i64 0), (.int .i64 0), (.int .i64 0), (.int .i64 0), (.int .i64 0), (.bool false), (.bool false), (.bool false)] [(0, (3, (.tmp 7))), (3, (1, (.tmp 8))), (4, (1, (.tmp 9))), (8, (1, (.tmp 19)))]), none⟩ (.alt false ⟨(some 21), (.box 149 (.tmp 20)), none⟩ (.take ⟨(some 6), (.mv (.tmp 21)), none⟩ .done) .stop)))) .stop))))) .stop))))))) .ret))⟩ := by kernel_rfl

/-- (*allotment/page.Claimer).Found -/
theorem tr99 : trF Tryz.prog pures Tryz.f99 = some
  ⟨15, [(.t 2), (.t 3)],
    (.seq (.reg [⟨(some 2), (.mv (.const (.int .i64 0))), none⟩, ⟨(some 3), (.mv (.const (.bool false))), none⟩])
    (.seq (.seq
    (.reg [⟨(some 4), (.mv (.tmp 0)), none⟩, ⟨(some 5), (.pnil false (.tmp 4)), none⟩, ⟨(some 6), (.mv (.tmp 5)), none⟩, ⟨(some 7), (.mv (.tmp 0)), (some (6, false))⟩, ⟨(some 8), (.nilck (.tmp 7)), (some (6, false))⟩, ⟨(some 9), (.fad 7 (.tmp 8)), (some (6, false))⟩, ⟨(some 10), (.ld1 (.tmp 9)), (some (6, false))⟩, ⟨(some 11), (.nt (.tmp 10)), (some (6, false))⟩, ⟨(some 12), (.pick (.tmp 6) (.const (.bool true)) (.tmp 11)), none⟩])
    (.cond (.tmp 12)
    (.seq (.reg [⟨(some 2), (.mv (.const (.int .i64 0))), none⟩, ⟨(some 3), (.mv (.const (.bool false))), none⟩]) .ret) .skip))
    (.seq (.reg [⟨(some 13), (.mv (.tmp 0)), none⟩, ⟨(some 14), (.call 102 [(.tmp 13)]), none⟩, ⟨(some 2), (.mv (.tmp 14)), none⟩, ⟨(some 3), (.mv (.const (.bool true))), none⟩]) .ret)))⟩ := by kernel_rfl

end Go.Proofs.YtfdhilnaagpecaaGreat
