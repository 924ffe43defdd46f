/-
  The compact code of functions of this seat, as translated from the model: each translation holds by reckoning. Conditions: none.
-/
import Derived.Test.YtfdhilnaagpecaaGreatCode
set_option maxRecDepth 100000
namespace Go.Proofs.YtfdhilnaagpecaaGreat
open Go Go.Ev

/-- (*allotment/mag.Taker).Done -/
theorem tr121 : trF Tryz.prog pures Tryz.f121 = some
  ⟨11, [(.t 2)],
    (.seq (.reg [⟨(some 2), (.mv (.const (.bool false))), none⟩])
    (.seq (.reg [⟨(some 3), (.mv (.tmp 0)), none⟩, ⟨(some 4), (.pnil true (.tmp 3)), none⟩, ⟨(some 5), (.mv (.tmp 4)), none⟩, ⟨(some 6), (.mv (.tmp 0)), (some (5, true))⟩, ⟨(some 7), (.nilck (.tmp 6)), (some (5, true))⟩, ⟨(some 8), (.fad 11 (.tmp 7)), (some (5, true))⟩, ⟨(some 9), (.ld1 (.tmp 8)), (some (5, true))⟩, ⟨(some 10), (.pick (.tmp 5) (.tmp 9) (.const (.bool false))), none⟩, ⟨(some 2), (.mv (.tmp 10)), none⟩]) .ret))⟩ := by kernel_rfl

/-- (*allotment/mag.Taker).Step -/
theorem tr122 : trF Tryz.prog pures Tryz.f122 = some
  ⟨97, [],
    (.seq (.seq
    (.reg [⟨(some 7), (.mv (.tmp 0)), none⟩, ⟨(some 8), (.pnil false (.tmp 7)), none⟩, ⟨(some 9), (.mv (.tmp 8)), none⟩, ⟨(some 10), (.mv (.tmp 0)), (some (9, false))⟩, ⟨(some 11), (.nilck (.tmp 10)), (some (9, false))⟩, ⟨(some 12), (.fad 11 (.tmp 11)), (some (9, false))⟩, ⟨(some 13), (.ld1 (.tmp 12)), (some (9, false))⟩, ⟨(some 14), (.pick (.tmp 9) (.const (.bool true)) (.tmp 13)), none⟩])
    (.cond (.tmp 14) .ret .skip))
    (.seq (.reg [⟨(some 15), (.mv (.tmp 0)), none⟩, ⟨(some 16), (.nilck (.tmp 15)), none⟩, ⟨(some 17), (.fad 0 (.tmp 16)), none⟩, ⟨(some 18), (.ldn 3 (.tmp 17)), none⟩, ⟨(some 19), (.mv (.tmp 0)), none⟩, ⟨(some 20), (.nilck (.tmp 19)), none⟩, ⟨(some 21), (.fad 3 (.tmp 20)), none⟩, ⟨(some 22), (.ld1 (.tmp 21)), none⟩, ⟨(some 23), (.mv (.tmp 0)), none⟩, ⟨(some 24), (.nilck (.tmp 23)), none⟩, ⟨(some 25), (.fad 5 (.tmp 24)), none⟩, ⟨(some 26), (.ld1 (.tmp 25)), none⟩, ⟨(some 27), (.pcall 123 [(.tmp 18), (.tmp 22), (.tmp 26)]), none⟩, ⟨(some 4), (.mv (.tmp 27)), none⟩])
    (.seq (.seq
    (.reg [⟨(some 28), (.mv (.tmp 0)), none⟩, ⟨(some 29), (.nilck (.tmp 28)), none⟩, ⟨(some 30), (.fad 9 (.tmp 29)), none⟩, ⟨(some 31), (.ld1 (.tmp 30)), none⟩])
    (.cond (.tmp 31)
    (.seq (.reg [⟨(some 32), (.mv (.tmp 1)), none⟩, ⟨(some 33), (.mv (.tmp 0)), none⟩, ⟨(some 34), (.nilck (.tmp 33)), none⟩, ⟨(some 35), (.fad 3 (.tmp 34)), none⟩, ⟨(some 36), (.ld1 (.tmp 35)), none⟩, ⟨(some 37), (.mv (.tmp 4)), none⟩, ⟨(some 38), (.call 33 [(.tmp 32), (.tmp 36), (.tmp 37), (.const (.int .u64 0))]), none⟩])
    (.seq (.reg [⟨(some 39), (.mv (.tmp 0)), none⟩, ⟨(some 40), (.mv (.tmp 0)), none⟩, ⟨(some 41), (.nilck (.tmp 39)), none⟩, ⟨(some 42), (.fad 10 (.tmp 41)), none⟩, ⟨none, (.st1 (.tmp 42) (.const (.bool true))), none⟩, ⟨(some 43), (.nilck (.tmp 40)), none⟩, ⟨(some 44), (.fad 11 (.tmp 43)), none⟩, ⟨none, (.st1 (.tmp 44) (.const (.bool true))), none⟩]) .ret)) .skip))
    (.seq (.draw (.take ⟨(some 46), (.mv (.tmp 0)), none⟩ (.take ⟨(some 47), (.nilck (.tmp 46)), none⟩ (.take ⟨(some 48), (.fad 0 (.tmp 47)), none⟩ (.take ⟨(some 49), (.ldn 3 (.tmp 48)), none⟩ (.take ⟨(some 50), (.mv (.tmp 1)), none⟩ (.take ⟨(some 51), (.mv (.tmp 0)), none⟩ (.take ⟨(some 52), (.nilck (.tmp 51)), none⟩ (.take ⟨(some 53), (.fad 3 (.tmp 52)), none⟩ (.take ⟨(some 54), (.ld1 (.tmp 53)), none⟩ (.take ⟨(some 55), (.mv (.tmp 4)), none⟩ (.alt false ⟨(some 56), (.call 71 [(.tmp 50), (.tmp 54), (.tmp 55)]), none⟩ (.alt false ⟨(some 57), (.pcall 124 [(.tmp 49), (.tmp 56)]), none⟩ (.take ⟨(some 45), (.mv (.tmp 57)), none⟩ (.take ⟨(some 58), (.ext 0 (.tmp 45)), none⟩ (.take ⟨(some 59), (.ext 1 (.tmp 45)), none⟩ (.alt false ⟨(some 5), (.alc 131 (.agg #[(.int .i64 0), (.int .i64 0), (.int .i64 0)])), none⟩ (.alt false ⟨none, (.stn 3 (.tmp 5) (.tmp 58)), none⟩ (.take ⟨(some 6), (.mv (.tmp 59)), none⟩ .done) .stop) .stop)))) (.alt false ⟨(some 5), (.alc 131 (.agg #[(.int .i64 0), (.int .i64 0), (.int .i64 0)])), none⟩ (.alt false ⟨(some 57), (.pcall 124 [(.tmp 49), (.tmp 56)]), none⟩ (.take ⟨(some 45), (.mv (.tmp 57)), none⟩ (.take ⟨(some 58), (.ext 0 (.tmp 45)), none⟩ (.take ⟨(some 59), (.ext 1 (.tmp 45)), none⟩ (.alt false ⟨none, (.stn 3 (.tmp 5) (.tmp 58)), none⟩ (.take ⟨(some 6), (.mv (.tmp 59)), none⟩ .done) .stop)))) .stop) .stop)) (.alt false ⟨(some 5), (.alc 131 (.agg #[(.int .i64 0), (.int .i64 0), (.int .i64 0)])), none⟩ (.alt false ⟨(some 56), (.call 71 [(.tmp 50), (.tmp 54), (.tmp 55)]), none⟩ (.alt false ⟨(some 57), (.pcall 124 [(.tmp 49), (.tmp 56)]), none⟩ (.take ⟨(some 45), (.mv (.tmp 57)), none⟩ (.take ⟨(some 58), (.ext 0 (.tmp 45)), none⟩ (.take ⟨(some 59), (.ext 1 (.tmp 45)), none⟩ (.alt false ⟨none, (.stn 3 (.tmp 5) (.tmp 58)), none⟩ (.take ⟨(some 6), (.mv (.tmp 59)), none⟩ .done) .stop)))) .stop) .stop) .stop)))))))))))))
    (.seq (.seq
    (.reg [⟨(some 60), (.mv (.tmp 6)), none⟩, ⟨(some 61), (.mv (.tmp 60)), none⟩, ⟨(some 62), (.fad 2 (.tmp 5)), (some (61, true))⟩, ⟨(some 63), (.ld1 (.tmp 62)), (some (61, true))⟩, ⟨(some 64), (.mv (.tmp 0)), (some (61, true))⟩, ⟨(some 65), (.nilck (.tmp 64)), (some (61, true))⟩, ⟨(some 66), (.fad 4 (.tmp 65)), (some (61, true))⟩, ⟨(some 67), (.ld1 (.tmp 66)), (some (61, true))⟩, ⟨(some 68), (.cmp .eql (.tmp 63) (.tmp 67)), (some (61, true))⟩, ⟨(some 69), (.pick (.tmp 61) (.tmp 68) (.const (.bool false))), none⟩])
    (.cond (.tmp 69)
    (.seq (.reg [⟨(some 70), (.mv (.tmp 0)), none⟩, ⟨(some 71), (.mv (.tmp 0)), none⟩, ⟨(some 72), (.ldn 3 (.tmp 5)), none⟩, ⟨(some 73), (.nilck (.tmp 70)), none⟩, ⟨(some 74), (.fad 6 (.tmp 73)), none⟩, ⟨none, (.stn 3 (.tmp 74) (.tmp 72)), none⟩, ⟨(some 75), (.nilck (.tmp 71)), none⟩, ⟨(some 76), (.fad 9 (.tmp 75)), none⟩, ⟨none, (.st1 (.tmp 76) (.const (.bool true))), none⟩]) .ret) .skip))
    (.seq (.reg [⟨(some 77), (.mv (.tmp 0)), none⟩, ⟨(some 78), (.nilck (.tmp 77)), none⟩, ⟨(some 79), (.fad 5 (.tmp 78)), none⟩, ⟨(some 80), (.ld1 (.tmp 79)), none⟩, ⟨(some 81), (.ar .add (.tmp 80) (.const (.int .i64 1))), none⟩, ⟨(some 82), (.nilck (.tmp 77)), none⟩, ⟨(some 83), (.fad 5 (.tmp 82)), none⟩, ⟨none, (.st1 (.tmp 83) (.tmp 81)), none⟩])
    (.draw (.take ⟨(some 84), (.mv (.tmp 0)), none⟩ (.take ⟨(some 85), (.mv (.tmp 0)), none⟩ (.take ⟨(some 86), (.nilck (.tmp 85)), none⟩ (.take ⟨(some 87), (.fad 5 (.tmp 86)), none⟩ (.take ⟨(some 88), (.ld1 (.tmp 87)), none⟩ (.take ⟨(some 89), (.mv (.tmp 0)), none⟩ (.take ⟨(some 90), (.nilck (.tmp 89)), none⟩ (.take ⟨(some 91), (.fad 0 (.tmp 90)), none⟩ (.take ⟨(some 92), (.fad 2 (.tmp 91)), none⟩ (.take ⟨(some 93), (.ld1 (.tmp 92)), none⟩ (.take ⟨(some 94), (.cmp .eql (.tmp 88) (.tmp 93)), none⟩ (.take ⟨(some 95), (.nilck (.tmp 84)), none⟩ (.take ⟨(some 96), (.fad 11 (.tmp 95)), none⟩ (.alt true ⟨none, (.st1 (.tmp 96) (.tmp 94)), none⟩ .done .stop)))))))))))))))))))))⟩ := by kernel_rfl

/-- allotment/mag.NewTaker -/
theorem tr63 : trF Tryz.prog pures Tryz.f63 = some
  ⟨22, [(.t 6)],
    (.seq (.reg [⟨(some 3), (.box 26 (.tmp 0)), none⟩, ⟨(some 6), (.mv (.const (.pointer none))), none⟩])
    (.seq (.draw (.take ⟨(some 7), (.ldn 3 (.tmp 3)), none⟩ (.take ⟨(some 8), (.mv (.tmp 1)), none⟩ (.take ⟨(some 9), (.mv (.tmp 2)), none⟩ (.take ⟨(some 10), (.ldn 3 (.tmp 3)), none⟩ (.take ⟨(some 11), (.mv (.tmp 1)), none⟩ (.take ⟨(some 12), (.mv (.tmp 2)), none⟩ (.alt false ⟨(some 13), (.call 89 [(.tmp 10), (.tmp 11), (.tmp 12)]), none⟩ (.take ⟨(some 14), (.nt (.tmp 13)), none⟩ (.take ⟨(some 15), (.mv (.tmp 14)), none⟩ (.take ⟨(some 16), (.fad 2 (.tmp 3)), (some (15, false))⟩ (.take ⟨(some 17), (.ld1 (.tmp 16)), (some (15, false))⟩ (.take ⟨(some 18), (.cmp .eql (.tmp 17) (.const (.int .i64 0))), (some (15, false))⟩ (.take ⟨(some 19), (.pick (.tmp 15) (.const (.bool true)) (.tmp 18)), none⟩ (.take ⟨(some 20), (.bld #[(.int .i64 0), (.int .i64 0), (.int .i64 0), (.int .i64 0), (.int .i64 0), (.int .i64 0), (.int .i64 0), (.int .i64 0), (.int .i64 0), (.bool false), (.bool false), (.bool false)] [(0, (3, (.tmp 7))), (3, (1, (.tmp 8))), (4, (1, (.tmp 9))), (11, (1, (.tmp 19)))]), none⟩ (.alt false ⟨(some 21), (.box 133 (.tmp 20)), none⟩ (.take ⟨(some 6), (.mv (.tmp 21)), none⟩ .done) .stop)))))))) .stop)))))))) .ret))⟩ := by kernel_rfl

/-- allotment/mag.good -/
theorem tr89 : trF Tryz.prog pures Tryz.f89 = some
  ⟨16, [(.t 6)],
    (.seq (.reg [⟨(some 3), (.box 26 (.tmp 0)), none⟩, ⟨(some 6), (.mv (.const (.bool false))), none⟩])
    (.seq (.reg [⟨(some 7), (.ldn 3 (.tmp 3)), none⟩, ⟨(some 8), (.mv (.tmp 1)), none⟩, ⟨(some 9), (.pcall 61 [(.tmp 7), (.tmp 8)]), none⟩, ⟨(some 10), (.cmp .geq (.tmp 9) (.const (.int .i64 0))), none⟩, ⟨(some 11), (.mv (.tmp 10)), none⟩, ⟨(some 12), (.mv (.tmp 2)), (some (11, true))⟩, ⟨(some 13), (.pcall 62 [(.tmp 12)]), (some (11, true))⟩, ⟨(some 14), (.cmp .gtr (.tmp 13) (.const (.int .i64 0))), (some (11, true))⟩, ⟨(some 15), (.pick (.tmp 11) (.tmp 14) (.const (.bool false))), none⟩, ⟨(some 6), (.mv (.tmp 15)), none⟩]) .ret))⟩ := by kernel_rfl

/-- (*allotment/mag.Taker).Found -/
theorem tr94 : trF Tryz.prog pures Tryz.f94 = some
  ⟨24, [(.t 2), (.t 3), (.t 4)],
    (.seq (.reg [⟨(some 2), (.mv (.const (.int .i64 0))), none⟩, ⟨(some 3), (.mv (.const (.int .i64 0))), none⟩, ⟨(some 4), (.mv (.const (.bool false))), none⟩])
    (.seq (.seq
    (.reg [⟨(some 5), (.mv (.tmp 0)), none⟩, ⟨(some 6), (.pnil false (.tmp 5)), none⟩, ⟨(some 7), (.mv (.tmp 6)), none⟩, ⟨(some 8), (.mv (.tmp 0)), (some (7, false))⟩, ⟨(some 9), (.nilck (.tmp 8)), (some (7, false))⟩, ⟨(some 10), (.fad 10 (.tmp 9)), (some (7, false))⟩, ⟨(some 11), (.ld1 (.tmp 10)), (some (7, false))⟩, ⟨(some 12), (.nt (.tmp 11)), (some (7, false))⟩, ⟨(some 13), (.pick (.tmp 7) (.const (.bool true)) (.tmp 12)), none⟩])
    (.cond (.tmp 13)
    (.seq (.reg [⟨(some 2), (.mv (.const (.int .i64 0))), none⟩, ⟨(some 3), (.mv (.const (.int .i64 0))), none⟩, ⟨(some 4), (.mv (.const (.bool false))), none⟩]) .ret) .skip))
    (.seq (.reg [⟨(some 14), (.mv (.tmp 0)), none⟩, ⟨(some 15), (.nilck (.tmp 14)), none⟩, ⟨(some 16), (.fad 6 (.tmp 15)), none⟩, ⟨(some 17), (.fad 0 (.tmp 16)), none⟩, ⟨(some 18), (.ld1 (.tmp 17)), none⟩, ⟨(some 19), (.mv (.tmp 0)), none⟩, ⟨(some 20), (.nilck (.tmp 19)), none⟩, ⟨(some 21), (.fad 6 (.tmp 20)), none⟩, ⟨(some 22), (.fad 1 (.tmp 21)), none⟩, ⟨(some 23), (.ld1 (.tmp 22)), none⟩, ⟨(some 2), (.mv (.tmp 18)), none⟩, ⟨(some 3), (.mv (.tmp 23)), none⟩, ⟨(some 4), (.mv (.const (.bool true))), none⟩]) .ret)))⟩ := by kernel_rfl

end Go.Proofs.YtfdhilnaagpecaaGreat
