/-
  The compact code of functions of this seat, as translated from the model: each translation holds by reckoning. Conditions: none.
-/
import Derived.Test.YtfdhilnaagpecaaGreatCode
set_option maxRecDepth 100000
namespace Go.Proofs.YtfdhilnaagpecaaGreat
open Go Go.Ev

/-- (*allotment/seek.Seeker).bind -/
theorem tr100 : trF Tryz.prog pures Tryz.f100 = some
  ⟨26, [],
    (.seq (.reg [⟨(some 4), (.mv (.tmp 0)), none⟩, ⟨(some 5), (.mv (.tmp 1)), none⟩, ⟨(some 6), (.nilck (.tmp 4)), none⟩, ⟨(some 7), (.fad 8 (.tmp 6)), none⟩, ⟨none, (.st1 (.tmp 7) (.tmp 5)), none⟩])
    (.draw (.take ⟨(some 8), (.mv (.tmp 0)), none⟩ (.take ⟨(some 9), (.mv (.tmp 0)), none⟩ (.take ⟨(some 10), (.nilck (.tmp 9)), none⟩ (.take ⟨(some 11), (.fad 0 (.tmp 10)), none⟩ (.take ⟨(some 12), (.ldn 3 (.tmp 11)), none⟩ (.take ⟨(some 13), (.mv (.tmp 0)), none⟩ (.take ⟨(some 14), (.nilck (.tmp 13)), none⟩ (.take ⟨(some 15), (.fad 3 (.tmp 14)), none⟩ (.take ⟨(some 16), (.ld1 (.tmp 15)), none⟩ (.take ⟨(some 17), (.mv (.tmp 1)), none⟩ (.take ⟨(some 18), (.mv (.tmp 0)), none⟩ (.take ⟨(some 19), (.nilck (.tmp 18)), none⟩ (.take ⟨(some 20), (.fad 4 (.tmp 19)), none⟩ (.take ⟨(some 21), (.ld1 (.tmp 20)), none⟩ (.alt false ⟨(some 22), (.call 103 [(.tmp 12), (.tmp 16), (.tmp 17), (.tmp 21)]), none⟩ (.take ⟨(some 23), (.mif 145 (.tmp 22)), none⟩ (.take ⟨(some 24), (.nilck (.tmp 8)), none⟩ (.take ⟨(some 25), (.fad 6 (.tmp 24)), none⟩ (.alt true ⟨none, (.st1 (.tmp 25) (.tmp 23)), none⟩ .done .stop)))) .stop)))))))))))))))))⟩ := by kernel_rfl

/-- allotment/seek.New -/
theorem tr28 : trF Tryz.prog pures Tryz.f28 = some
  ⟨46, [(.t 8)],
    (.seq (.reg [⟨(some 4), (.box 26 (.tmp 0)), none⟩, ⟨(some 8), (.mv (.const (.pointer none))), none⟩])
    (.seq (.reg [⟨(some 11), (.ldn 3 (.tmp 4)), none⟩, ⟨(some 12), (.mv (.tmp 1)), none⟩, ⟨(some 13), (.pcall 61 [(.tmp 11), (.tmp 12)]), none⟩, ⟨(some 14), (.cmp .geq (.tmp 13) (.const (.int .i64 0))), none⟩, ⟨(some 15), (.mv (.tmp 14)), none⟩, ⟨(some 16), (.mv (.tmp 2)), (some (15, true))⟩, ⟨(some 17), (.pcall 62 [(.tmp 16)]), (some (15, true))⟩, ⟨(some 18), (.cmp .gtr (.tmp 17) (.const (.int .i64 0))), (some (15, true))⟩, ⟨(some 19), (.pick (.tmp 15) (.tmp 18) (.const (.bool false))), none⟩, ⟨(some 20), (.mv (.tmp 19)), none⟩, ⟨(some 21), (.ldn 3 (.tmp 4)), (some (20, true))⟩, ⟨(some 22), (.mv (.tmp 3)), (some (20, true))⟩, ⟨(some 23), (.pcall 34 [(.tmp 21), (.tmp 22)]), (some (20, true))⟩, ⟨(some 24), (.cmp .geq (.tmp 23) (.const (.int .i64 0))), (some (20, true))⟩, ⟨(some 25), (.pick (.tmp 20) (.tmp 24) (.const (.bool false))), none⟩, ⟨(some 9), (.mv (.tmp 25)), none⟩])
    (.seq (.reg [⟨(some 26), (.ldn 3 (.tmp 4)), none⟩, ⟨(some 27), (.mv (.tmp 1)), none⟩, ⟨(some 28), (.mv (.tmp 2)), none⟩, ⟨(some 29), (.mv (.tmp 3)), none⟩, ⟨(some 30), (.mv (.tmp 9)), none⟩, ⟨(some 31), (.nt (.tmp 30)), none⟩, ⟨(some 32), (.bld #[(.int .i64 0), (.int .i64 0), (.int .i64 0), (.int .i64 0), (.int .i64 0), (.int .i64 0), .nilIface, (.int .i64 0), (.int .i64 0), (.int .i64 0), (.bool false), (.bool false)] [(0, (3, (.tmp 26))), (3, (1, (.tmp 27))), (4, (1, (.tmp 28))), (5, (1, (.tmp 29))), (11, (1, (.tmp 31)))]), none⟩, ⟨(some 33), (.box 112 (.tmp 32)), none⟩, ⟨(some 10), (.mv (.tmp 33)), none⟩])
    (.seq (.seq
    (.reg [⟨(some 34), (.mv (.tmp 9)), none⟩])
    (.cond (.tmp 34)
    (.seq (.reg [⟨(some 35), (.mv (.tmp 10)), none⟩, ⟨(some 36), (.ldn 3 (.tmp 4)), none⟩, ⟨(some 37), (.mv (.tmp 1)), none⟩, ⟨(some 38), (.mv (.tmp 2)), none⟩, ⟨(some 39), (.call 63 [(.tmp 36), (.tmp 37), (.tmp 38)]), none⟩, ⟨(some 40), (.mif 113 (.tmp 39)), none⟩, ⟨(some 41), (.nilck (.tmp 35)), none⟩, ⟨(some 42), (.fad 6 (.tmp 41)), none⟩, ⟨none, (.st1 (.tmp 42) (.tmp 40)), none⟩])
    (.reg [⟨(some 43), (.mv (.tmp 10)), none⟩, ⟨(some 44), (.call 64 [(.tmp 43)]), none⟩])) .skip))
    (.seq (.reg [⟨(some 45), (.mv (.tmp 10)), none⟩, ⟨(some 8), (.mv (.tmp 45)), none⟩]) .ret)))))⟩ := by kernel_rfl

/-- (*allotment/seek.Seeker).Found -/
theorem tr31 : trF Tryz.prog pures Tryz.f31 = some
  ⟨22, [(.t 2), (.t 3), (.t 4)],
    (.seq (.reg [⟨(some 2), (.mv (.const (.int .i64 0))), none⟩, ⟨(some 3), (.mv (.const (.int .i64 0))), none⟩, ⟨(some 4), (.mv (.const (.bool false))), none⟩])
    (.seq (.seq
    (.reg [⟨(some 5), (.mv (.tmp 0)), none⟩, ⟨(some 6), (.pnil false (.tmp 5)), none⟩, ⟨(some 7), (.mv (.tmp 6)), none⟩, ⟨(some 8), (.mv (.tmp 0)), (some (7, false))⟩, ⟨(some 9), (.nilck (.tmp 8)), (some (7, false))⟩, ⟨(some 10), (.fad 10 (.tmp 9)), (some (7, false))⟩, ⟨(some 11), (.ld1 (.tmp 10)), (some (7, false))⟩, ⟨(some 12), (.nt (.tmp 11)), (some (7, false))⟩, ⟨(some 13), (.pick (.tmp 7) (.const (.bool true)) (.tmp 12)), none⟩])
    (.cond (.tmp 13)
    (.seq (.reg [⟨(some 2), (.mv (.const (.int .i64 0))), none⟩, ⟨(some 3), (.mv (.const (.int .i64 0))), none⟩, ⟨(some 4), (.mv (.const (.bool false))), none⟩]) .ret) .skip))
    (.seq (.reg [⟨(some 14), (.mv (.tmp 0)), none⟩, ⟨(some 15), (.nilck (.tmp 14)), none⟩, ⟨(some 16), (.fad 8 (.tmp 15)), none⟩, ⟨(some 17), (.ld1 (.tmp 16)), none⟩, ⟨(some 18), (.mv (.tmp 0)), none⟩, ⟨(some 19), (.nilck (.tmp 18)), none⟩, ⟨(some 20), (.fad 9 (.tmp 19)), none⟩, ⟨(some 21), (.ld1 (.tmp 20)), none⟩, ⟨(some 2), (.mv (.tmp 17)), none⟩, ⟨(some 3), (.mv (.tmp 21)), none⟩, ⟨(some 4), (.mv (.const (.bool true))), none⟩]) .ret)))⟩ := by kernel_rfl

/-- (*allotment/seek.Seeker).Done -/
theorem tr38 : trF Tryz.prog pures Tryz.f38 = some
  ⟨11, [(.t 2)],
    (.seq (.reg [⟨(some 2), (.mv (.const (.bool false))), none⟩])
    (.seq (.reg [⟨(some 3), (.mv (.tmp 0)), none⟩, ⟨(some 4), (.pnil true (.tmp 3)), none⟩, ⟨(some 5), (.mv (.tmp 4)), none⟩, ⟨(some 6), (.mv (.tmp 0)), (some (5, true))⟩, ⟨(some 7), (.nilck (.tmp 6)), (some (5, true))⟩, ⟨(some 8), (.fad 11 (.tmp 7)), (some (5, true))⟩, ⟨(some 9), (.ld1 (.tmp 8)), (some (5, true))⟩, ⟨(some 10), (.pick (.tmp 5) (.tmp 9) (.const (.bool false))), none⟩, ⟨(some 2), (.mv (.tmp 10)), none⟩]) .ret))⟩ := by kernel_rfl

/-- (*allotment/seek.Seeker).Step -/
theorem tr41 : trF Tryz.prog pures Tryz.f41 = some
  ⟨75, [],
    (.seq (.seq
    (.reg [⟨(some 6), (.mv (.tmp 0)), none⟩, ⟨(some 7), (.pnil false (.tmp 6)), none⟩, ⟨(some 8), (.mv (.tmp 7)), none⟩, ⟨(some 9), (.mv (.tmp 0)), (some (8, false))⟩, ⟨(some 10), (.nilck (.tmp 9)), (some (8, false))⟩, ⟨(some 11), (.fad 11 (.tmp 10)), (some (8, false))⟩, ⟨(some 12), (.ld1 (.tmp 11)), (some (8, false))⟩, ⟨(some 13), (.pick (.tmp 8) (.const (.bool true)) (.tmp 12)), none⟩])
    (.cond (.tmp 13) .ret .skip))
    (.seq (.seq
    (.reg [⟨(some 14), (.mv (.tmp 0)), none⟩, ⟨(some 15), (.nilck (.tmp 14)), none⟩, ⟨(some 16), (.fad 6 (.tmp 15)), none⟩, ⟨(some 17), (.ld1 (.tmp 16)), none⟩, ⟨(some 18), (.inil true (.tmp 17)), none⟩])
    (.cond (.tmp 18)
    (.seq (.reg [⟨(some 19), (.mv (.tmp 0)), none⟩, ⟨(some 20), (.nilck (.tmp 19)), none⟩, ⟨(some 21), (.fad 6 (.tmp 20)), none⟩, ⟨(some 22), (.ld1 (.tmp 21)), none⟩, ⟨(some 23), (.mv (.tmp 1)), none⟩, ⟨(some 24), (.inv "Step" (.tmp 22) [(.tmp 23)]), none⟩])
    (.seq (.reg [⟨(some 25), (.mv (.tmp 0)), none⟩, ⟨(some 26), (.call 64 [(.tmp 25)]), none⟩]) .ret)) .skip))
    (.seq (.draw (.take ⟨(some 28), (.mv (.tmp 0)), none⟩ (.take ⟨(some 29), (.nilck (.tmp 28)), none⟩ (.take ⟨(some 30), (.fad 0 (.tmp 29)), none⟩ (.take ⟨(some 31), (.ldn 3 (.tmp 30)), none⟩ (.take ⟨(some 32), (.mv (.tmp 0)), none⟩ (.take ⟨(some 34), (.mv (.tmp 1)), none⟩ (.take ⟨(some 35), (.mv (.tmp 0)), none⟩ (.take ⟨(some 36), (.nilck (.tmp 35)), none⟩ (.take ⟨(some 37), (.fad 3 (.tmp 36)), none⟩ (.take ⟨(some 38), (.ld1 (.tmp 37)), none⟩ (.take ⟨(some 39), (.mv (.tmp 0)), none⟩ (.take ⟨(some 40), (.nilck (.tmp 39)), none⟩ (.take ⟨(some 41), (.fad 0 (.tmp 40)), none⟩ (.take ⟨(some 42), (.ldn 3 (.tmp 41)), none⟩ (.take ⟨(some 43), (.mv (.tmp 0)), none⟩ (.alt false ⟨(some 33), (.call 70 [(.tmp 32)]), none⟩ (.alt false ⟨(some 44), (.call 70 [(.tmp 43)]), none⟩ (.alt false ⟨(some 45), (.pcall 34 [(.tmp 42), (.tmp 44)]), none⟩ (.alt false ⟨(some 46), (.call 71 [(.tmp 34), (.tmp 38), (.tmp 45)]), none⟩ (.alt false ⟨(some 47), (.pcall 69 [(.tmp 31), (.tmp 33), (.tmp 46)]), none⟩ (.take ⟨(some 27), (.mv (.tmp 47)), none⟩ (.take ⟨(some 48), (.ext 0 (.tmp 27)), none⟩ (.take ⟨(some 49), (.ext 1 (.tmp 27)), none⟩ (.alt false ⟨(some 4), (.alc 82 (.agg #[(.int .i64 0), (.int .i64 0), (.int .i64 0)])), none⟩ (.alt false ⟨none, (.stn 3 (.tmp 4) (.tmp 48)), none⟩ (.take ⟨(some 5), (.mv (.tmp 49)), none⟩ .done) .stop) .stop)))) (.alt false ⟨(some 4), (.alc 82 (.agg #[(.int .i64 0), (.int .i64 0), (.int .i64 0)])), none⟩ (.alt false ⟨(some 47), (.pcall 69 [(.tmp 31), (.tmp 33), (.tmp 46)]), none⟩ (.take ⟨(some 27), (.mv (.tmp 47)), none⟩ (.take ⟨(some 48), (.ext 0 (.tmp 27)), none⟩ (.take ⟨(some 49), (.ext 1 (.tmp 27)), none⟩ (.alt false ⟨none, (.stn 3 (.tmp 4) (.tmp 48)), none⟩ (.take ⟨(some 5), (.mv (.tmp 49)), none⟩ .done) .stop)))) .stop) .stop)) (.alt false ⟨(some 4), (.alc 82 (.agg #[(.int .i64 0), (.int .i64 0), (.int .i64 0)])), none⟩ (.alt false ⟨(some 46), (.call 71 [(.tmp 34), (.tmp 38), (.tmp 45)]), none⟩ (.alt false ⟨(some 47), (.pcall 69 [(.tmp 31), (.tmp 33), (.tmp 46)]), none⟩ (.take ⟨(some 27), (.mv (.tmp 47)), none⟩ (.take ⟨(some 48), (.ext 0 (.tmp 27)), none⟩ (.take ⟨(some 49), (.ext 1 (.tmp 27)), none⟩ (.alt false ⟨none, (.stn 3 (.tmp 4) (.tmp 48)), none⟩ (.take ⟨(some 5), (.mv (.tmp 49)), none⟩ .done) .stop)))) .stop) .stop) .stop)) (.alt false ⟨(some 4), (.alc 82 (.agg #[(.int .i64 0), (.int .i64 0), (.int .i64 0)])), none⟩ (.alt false ⟨(some 45), (.pcall 34 [(.tmp 42), (.tmp 44)]), none⟩ (.alt false ⟨(some 46), (.call 71 [(.tmp 34), (.tmp 38), (.tmp 45)]), none⟩ (.alt false ⟨(some 47), (.pcall 69 [(.tmp 31), (.tmp 33), (.tmp 46)]), none⟩ (.take ⟨(some 27), (.mv (.tmp 47)), none⟩ (.take ⟨(some 48), (.ext 0 (.tmp 27)), none⟩ (.take ⟨(some 49), (.ext 1 (.tmp 27)), none⟩ (.alt false ⟨none, (.stn 3 (.tmp 4) (.tmp 48)), none⟩ (.take ⟨(some 5), (.mv (.tmp 49)), none⟩ .done) .stop)))) .stop) .stop) .stop) .stop)) (.alt false ⟨(some 4), (.alc 82 (.agg #[(.int .i64 0), (.int .i64 0), (.int .i64 0)])), none⟩ (.alt false ⟨(some 44), (.call 70 [(.tmp 43)]), none⟩ (.alt false ⟨(some 45), (.pcall 34 [(.tmp 42), (.tmp 44)]), none⟩ (.alt false ⟨(some 46), (.call 71 [(.tmp 34), (.tmp 38), (.tmp 45)]), none⟩ (.alt false ⟨(some 47), (.pcall 69 [(.tmp 31), (.tmp 33), (.tmp 46)]), none⟩ (.take ⟨(some 27), (.mv (.tmp 47)), none⟩ (.take ⟨(some 48), (.ext 0 (.tmp 27)), none⟩ (.take ⟨(some 49), (.ext 1 (.tmp 27)), none⟩ (.alt false ⟨none, (.stn 3 (.tmp 4) (.tmp 48)), none⟩ (.take ⟨(some 5), (.mv (.tmp 49)), none⟩ .done) .stop)))) .stop) .stop) .stop) .stop) .stop)) (.alt false ⟨(some 4), (.alc 82 (.agg #[(.int .i64 0), (.int .i64 0), (.int .i64 0)])), none⟩ (.alt false ⟨(some 33), (.call 70 [(.tmp 32)]), none⟩ (.alt false ⟨(some 44), (.call 70 [(.tmp 43)]), none⟩ (.alt false ⟨(some 45), (.pcall 34 [(.tmp 42), (.tmp 44)]), none⟩ (.alt false ⟨(some 46), (.call 71 [(.tmp 34), (.tmp 38), (.tmp 45)]), none⟩ (.alt false ⟨(some 47), (.pcall 69 [(.tmp 31), (.tmp 33), (.tmp 46)]), none⟩ (.take ⟨(some 27), (.mv (.tmp 47)), none⟩ (.take ⟨(some 48), (.ext 0 (.tmp 27)), none⟩ (.take ⟨(some 49), (.ext 1 (.tmp 27)), none⟩ (.alt false ⟨none, (.stn 3 (.tmp 4) (.tmp 48)), none⟩ (.take ⟨(some 5), (.mv (.tmp 49)), none⟩ .done) .stop)))) .stop) .stop) .stop) .stop) .stop) .stop))))))))))))))))))
    (.seq (.reg [⟨(some 50), (.mv (.tmp 5)), none⟩, ⟨(some 51), (.mv (.tmp 50)), none⟩, ⟨(some 52), (.fad 0 (.tmp 4)), (some (51, true))⟩, ⟨(some 53), (.ld1 (.tmp 52)), (some (51, true))⟩, ⟨(some 54), (.cmp .eql (.tmp 53) (.const (.int .i64 2))), (some (51, true))⟩, ⟨(some 55), (.pick (.tmp 51) (.tmp 54) (.const (.bool false))), none⟩])
    (.cond (.tmp 55)
    (.draw (.take ⟨(some 56), (.mv (.tmp 0)), none⟩ (.take ⟨(some 57), (.mv (.tmp 0)), none⟩ (.take ⟨(some 58), (.nilck (.tmp 57)), none⟩ (.take ⟨(some 59), (.fad 0 (.tmp 58)), none⟩ (.take ⟨(some 60), (.ldn 3 (.tmp 59)), none⟩ (.take ⟨(some 61), (.mv (.tmp 0)), none⟩ (.take ⟨(some 62), (.nilck (.tmp 61)), none⟩ (.take ⟨(some 63), (.fad 3 (.tmp 62)), none⟩ (.take ⟨(some 64), (.ld1 (.tmp 63)), none⟩ (.take ⟨(some 65), (.mv (.tmp 0)), none⟩ (.take ⟨(some 67), (.fad 1 (.tmp 4)), none⟩ (.take ⟨(some 68), (.ld1 (.tmp 67)), none⟩ (.alt false ⟨(some 66), (.call 70 [(.tmp 65)]), none⟩ (.alt false ⟨(some 69), (.call 72 [(.tmp 60), (.tmp 64), (.tmp 66), (.tmp 68)]), none⟩ (.take ⟨(some 70), (.mif 115 (.tmp 69)), none⟩ (.take ⟨(some 71), (.nilck (.tmp 56)), none⟩ (.take ⟨(some 72), (.fad 6 (.tmp 71)), none⟩ (.alt true ⟨none, (.st1 (.tmp 72) (.tmp 70)), none⟩ .done .stop)))) .stop) .stop))))))))))))))
    (.reg [⟨(some 73), (.mv (.tmp 0)), none⟩, ⟨(some 74), (.call 73 [(.tmp 73)]), none⟩]))))))⟩ := by kernel_rfl

/-- (*allotment/seek.Seeker).settle -/
theorem tr64 : trF Tryz.prog pures Tryz.f64 = some
  ⟨23, [],
    (.block 0
    (.loop (.seq
    (.seq (.reg [⟨(some 2), (.mv (.tmp 0)), none⟩, ⟨(some 3), (.nilck (.tmp 2)), none⟩, ⟨(some 4), (.fad 11 (.tmp 3)), none⟩, ⟨(some 5), (.ld1 (.tmp 4)), none⟩, ⟨(some 6), (.nt (.tmp 5)), none⟩, ⟨(some 7), (.mv (.tmp 6)), none⟩, ⟨(some 8), (.mv (.tmp 0)), (some (7, true))⟩, ⟨(some 9), (.nilck (.tmp 8)), (some (7, true))⟩, ⟨(some 10), (.fad 6 (.tmp 9)), (some (7, true))⟩, ⟨(some 11), (.ld1 (.tmp 10)), (some (7, true))⟩, ⟨(some 12), (.inil true (.tmp 11)), (some (7, true))⟩, ⟨(some 13), (.pick (.tmp 7) (.tmp 12) (.const (.bool false))), none⟩, ⟨(some 14), (.mv (.tmp 13)), none⟩, ⟨(some 15), (.mv (.tmp 0)), (some (14, true))⟩, ⟨(some 16), (.nilck (.tmp 15)), (some (14, true))⟩, ⟨(some 17), (.fad 6 (.tmp 16)), (some (14, true))⟩, ⟨(some 18), (.ld1 (.tmp 17)), (some (14, true))⟩, ⟨(some 19), (.inv "Done" (.tmp 18) []), (some (14, true))⟩, ⟨(some 20), (.pick (.tmp 14) (.tmp 19) (.const (.bool false))), none⟩])
    (.cond (.tmp 20) .skip (.exit 0)))
    (.block 1
    (.reg [⟨(some 21), (.mv (.tmp 0)), none⟩, ⟨(some 22), (.call 90 [(.tmp 21)]), none⟩])))))⟩ := by kernel_rfl

/-- (*allotment/seek.Seeker).here -/
theorem tr70 : trF Tryz.prog pures Tryz.f70 = some
  ⟨18, [(.t 2)],
    (.seq (.reg [⟨(some 2), (.mv (.const (.int .i64 0))), none⟩])
    (.seq (.reg [⟨(some 3), (.mv (.tmp 0)), none⟩, ⟨(some 4), (.nilck (.tmp 3)), none⟩, ⟨(some 5), (.fad 5 (.tmp 4)), none⟩, ⟨(some 6), (.ld1 (.tmp 5)), none⟩, ⟨(some 7), (.mv (.tmp 0)), none⟩, ⟨(some 8), (.nilck (.tmp 7)), none⟩, ⟨(some 9), (.fad 7 (.tmp 8)), none⟩, ⟨(some 10), (.ld1 (.tmp 9)), none⟩, ⟨(some 11), (.ar .add (.tmp 6) (.tmp 10)), none⟩, ⟨(some 12), (.mv (.tmp 0)), none⟩, ⟨(some 13), (.nilck (.tmp 12)), none⟩, ⟨(some 14), (.fad 0 (.tmp 13)), none⟩, ⟨(some 15), (.fad 0 (.tmp 14)), none⟩, ⟨(some 16), (.ld1 (.tmp 15)), none⟩, ⟨(some 17), (.dv .rem (.tmp 11) (.tmp 16)), none⟩, ⟨(some 2), (.mv (.tmp 17)), none⟩]) .ret))⟩ := by kernel_rfl

/-- (*allotment/seek.Seeker).turn -/
theorem tr73 : trF Tryz.prog pures Tryz.f73 = some
  ⟨25, [],
    (.seq (.reg [⟨(some 2), (.mv (.tmp 0)), none⟩, ⟨(some 3), (.nilck (.tmp 2)), none⟩, ⟨(some 4), (.fad 6 (.tmp 3)), none⟩, ⟨none, (.st1 (.tmp 4) (.const .nilIface)), none⟩])
    (.seq (.reg [⟨(some 5), (.mv (.tmp 0)), none⟩, ⟨(some 6), (.nilck (.tmp 5)), none⟩, ⟨(some 7), (.fad 7 (.tmp 6)), none⟩, ⟨(some 8), (.ld1 (.tmp 7)), none⟩, ⟨(some 9), (.ar .add (.tmp 8) (.const (.int .i64 1))), none⟩, ⟨(some 10), (.nilck (.tmp 5)), none⟩, ⟨(some 11), (.fad 7 (.tmp 10)), none⟩, ⟨none, (.st1 (.tmp 11) (.tmp 9)), none⟩])
    (.draw (.take ⟨(some 12), (.mv (.tmp 0)), none⟩ (.take ⟨(some 13), (.mv (.tmp 0)), none⟩ (.take ⟨(some 14), (.nilck (.tmp 13)), none⟩ (.take ⟨(some 15), (.fad 7 (.tmp 14)), none⟩ (.take ⟨(some 16), (.ld1 (.tmp 15)), none⟩ (.take ⟨(some 17), (.mv (.tmp 0)), none⟩ (.take ⟨(some 18), (.nilck (.tmp 17)), none⟩ (.take ⟨(some 19), (.fad 0 (.tmp 18)), none⟩ (.take ⟨(some 20), (.fad 0 (.tmp 19)), none⟩ (.take ⟨(some 21), (.ld1 (.tmp 20)), none⟩ (.take ⟨(some 22), (.cmp .eql (.tmp 16) (.tmp 21)), none⟩ (.take ⟨(some 23), (.nilck (.tmp 12)), none⟩ (.take ⟨(some 24), (.fad 11 (.tmp 23)), none⟩ (.alt true ⟨none, (.st1 (.tmp 24) (.tmp 22)), none⟩ .done .stop)))))))))))))))))⟩ := by kernel_rfl

/-- (*allotment/seek.Seeker).after -/
theorem tr90 : trF Tryz.prog pures Tryz.f90 = some
  ⟨120, [],
    (.seq (.reg [⟨(some 15), (.mv (.tmp 0)), none⟩, ⟨(some 16), (.nilck (.tmp 15)), none⟩, ⟨(some 17), (.fad 6 (.tmp 16)), none⟩, ⟨(some 18), (.ld1 (.tmp 17)), none⟩])
    (.block 0
    (.seq (.reg [⟨(some 19), (.tas 113 (.pointer none) (.tmp 18)), none⟩, ⟨(some 20), (.ext 1 (.tmp 19)), none⟩, ⟨(some 21), (.ext 0 (.tmp 19)), none⟩])
    (.cond (.tmp 20)
    (.seq (.reg [⟨(some 2), (.mv (.tmp 21)), none⟩])
    (.seq (.seq
    (.reg [⟨(some 23), (.mv (.tmp 2)), none⟩, ⟨(some 24), (.call 94 [(.tmp 23)]), none⟩, ⟨(some 22), (.mv (.tmp 24)), none⟩, ⟨(some 25), (.ext 0 (.tmp 22)), none⟩, ⟨(some 26), (.ext 1 (.tmp 22)), none⟩, ⟨(some 27), (.ext 2 (.tmp 22)), none⟩, ⟨(some 3), (.mv (.tmp 25)), none⟩, ⟨(some 4), (.mv (.tmp 26)), none⟩, ⟨(some 5), (.mv (.tmp 27)), none⟩])
    (.seq (.reg [⟨(some 28), (.mv (.tmp 5)), none⟩])
    (.cond (.tmp 28)
    (.seq (.reg [⟨(some 29), (.mv (.tmp 0)), none⟩, ⟨(some 30), (.mv (.tmp 3)), none⟩, ⟨(some 31), (.mv (.tmp 4)), none⟩, ⟨(some 32), (.call 95 [(.tmp 29), (.tmp 30), (.tmp 31)]), none⟩]) .ret) .skip)))
    (.draw (.take ⟨(some 33), (.mv (.tmp 0)), none⟩ (.take ⟨(some 34), (.mv (.tmp 0)), none⟩ (.take ⟨(some 35), (.nilck (.tmp 34)), none⟩ (.take ⟨(some 36), (.fad 0 (.tmp 35)), none⟩ (.take ⟨(some 37), (.ldn 3 (.tmp 36)), none⟩ (.take ⟨(some 38), (.mv (.tmp 0)), none⟩ (.take ⟨(some 39), (.nilck (.tmp 38)), none⟩ (.take ⟨(some 40), (.fad 3 (.tmp 39)), none⟩ (.take ⟨(some 41), (.ld1 (.tmp 40)), none⟩ (.take ⟨(some 42), (.mv (.tmp 0)), none⟩ (.take ⟨(some 43), (.nilck (.tmp 42)), none⟩ (.take ⟨(some 44), (.fad 4 (.tmp 43)), none⟩ (.take ⟨(some 45), (.ld1 (.tmp 44)), none⟩ (.take ⟨(some 46), (.mv (.tmp 0)), none⟩ (.take ⟨(some 47), (.nilck (.tmp 46)), none⟩ (.take ⟨(some 48), (.fad 5 (.tmp 47)), none⟩ (.take ⟨(some 49), (.ld1 (.tmp 48)), none⟩ (.alt false ⟨(some 50), (.call 96 [(.tmp 37), (.tmp 41), (.tmp 45), (.tmp 49)]), none⟩ (.take ⟨(some 51), (.mif 141 (.tmp 50)), none⟩ (.take ⟨(some 52), (.nilck (.tmp 33)), none⟩ (.take ⟨(some 53), (.fad 6 (.tmp 52)), none⟩ (.alt true ⟨none, (.st1 (.tmp 53) (.tmp 51)), none⟩ .done .stop)))) .stop)))))))))))))))))))))
    (.seq (.reg [⟨(some 54), (.tas 141 (.pointer none) (.tmp 18)), none⟩, ⟨(some 55), (.ext 1 (.tmp 54)), none⟩, ⟨(some 56), (.ext 0 (.tmp 54)), none⟩])
    (.cond (.tmp 55)
    (.seq (.reg [⟨(some 6), (.mv (.tmp 56)), none⟩])
    (.seq (.seq
    (.reg [⟨(some 58), (.mv (.tmp 6)), none⟩, ⟨(some 59), (.call 97 [(.tmp 58)]), none⟩, ⟨(some 57), (.mv (.tmp 59)), none⟩, ⟨(some 60), (.ext 0 (.tmp 57)), none⟩, ⟨(some 61), (.ext 1 (.tmp 57)), none⟩, ⟨(some 62), (.ext 2 (.tmp 57)), none⟩, ⟨(some 7), (.mv (.tmp 60)), none⟩, ⟨(some 8), (.mv (.tmp 61)), none⟩, ⟨(some 9), (.mv (.tmp 62)), none⟩])
    (.seq (.reg [⟨(some 63), (.mv (.tmp 9)), none⟩])
    (.cond (.tmp 63)
    (.seq (.reg [⟨(some 64), (.mv (.tmp 0)), none⟩, ⟨(some 65), (.mv (.tmp 7)), none⟩, ⟨(some 66), (.mv (.tmp 8)), none⟩, ⟨(some 67), (.call 95 [(.tmp 64), (.tmp 65), (.tmp 66)]), none⟩]) .ret) .skip)))
    (.draw (.take ⟨(some 68), (.mv (.tmp 0)), none⟩ (.take ⟨(some 69), (.mv (.tmp 0)), none⟩ (.take ⟨(some 70), (.nilck (.tmp 69)), none⟩ (.take ⟨(some 71), (.fad 0 (.tmp 70)), none⟩ (.take ⟨(some 72), (.ldn 3 (.tmp 71)), none⟩ (.take ⟨(some 73), (.mv (.tmp 0)), none⟩ (.take ⟨(some 74), (.nilck (.tmp 73)), none⟩ (.take ⟨(some 75), (.fad 3 (.tmp 74)), none⟩ (.take ⟨(some 76), (.ld1 (.tmp 75)), none⟩ (.take ⟨(some 77), (.mv (.tmp 0)), none⟩ (.take ⟨(some 78), (.nilck (.tmp 77)), none⟩ (.take ⟨(some 79), (.fad 5 (.tmp 78)), none⟩ (.take ⟨(some 80), (.ld1 (.tmp 79)), none⟩ (.alt false ⟨(some 81), (.call 98 [(.tmp 72), (.tmp 76), (.tmp 80)]), none⟩ (.take ⟨(some 82), (.mif 143 (.tmp 81)), none⟩ (.take ⟨(some 83), (.nilck (.tmp 68)), none⟩ (.take ⟨(some 84), (.fad 6 (.tmp 83)), none⟩ (.alt true ⟨none, (.st1 (.tmp 84) (.tmp 82)), none⟩ .done .stop)))) .stop)))))))))))))))))
    (.seq (.reg [⟨(some 85), (.tas 143 (.pointer none) (.tmp 18)), none⟩, ⟨(some 86), (.ext 1 (.tmp 85)), none⟩, ⟨(some 87), (.ext 0 (.tmp 85)), none⟩])
    (.cond (.tmp 86)
    (.seq (.reg [⟨(some 10), (.mv (.tmp 87)), none⟩])
    (.seq (.seq
    (.reg [⟨(some 89), (.mv (.tmp 10)), none⟩, ⟨(some 90), (.call 99 [(.tmp 89)]), none⟩, ⟨(some 88), (.mv (.tmp 90)), none⟩, ⟨(some 91), (.ext 0 (.tmp 88)), none⟩, ⟨(some 92), (.ext 1 (.tmp 88)), none⟩, ⟨(some 11), (.mv (.tmp 91)), none⟩, ⟨(some 12), (.mv (.tmp 92)), none⟩])
    (.seq (.reg [⟨(some 93), (.mv (.tmp 12)), none⟩])
    (.cond (.tmp 93)
    (.seq (.reg [⟨(some 94), (.mv (.tmp 0)), none⟩, ⟨(some 95), (.mv (.tmp 11)), none⟩, ⟨(some 96), (.call 100 [(.tmp 94), (.tmp 95)]), none⟩]) .ret) .skip)))
    (.reg [⟨(some 97), (.mv (.tmp 0)), none⟩, ⟨(some 98), (.nilck (.tmp 97)), none⟩, ⟨(some 99), (.fad 6 (.tmp 98)), none⟩, ⟨none, (.st1 (.tmp 99) (.const .nilIface)), none⟩])))
    (.seq (.reg [⟨(some 100), (.tas 115 (.pointer none) (.tmp 18)), none⟩, ⟨(some 101), (.ext 1 (.tmp 100)), none⟩, ⟨(some 102), (.ext 0 (.tmp 100)), none⟩])
    (.cond (.tmp 101)
    (.seq (.reg [⟨(some 13), (.mv (.tmp 102)), none⟩])
    (.seq (.seq
    (.reg [⟨(some 103), (.mv (.tmp 13)), none⟩, ⟨(some 104), (.call 79 [(.tmp 103)]), none⟩])
    (.cond (.tmp 104)
    (.seq (.reg [⟨(some 105), (.mv (.tmp 0)), none⟩, ⟨(some 106), (.mv (.tmp 0)), none⟩, ⟨(some 107), (.call 70 [(.tmp 106)]), none⟩, ⟨(some 108), (.call 100 [(.tmp 105), (.tmp 107)]), none⟩]) .ret) .skip))
    (.reg [⟨(some 109), (.mv (.tmp 0)), none⟩, ⟨(some 110), (.call 73 [(.tmp 109)]), none⟩])))
    (.seq (.reg [⟨(some 111), (.tas 145 (.pointer none) (.tmp 18)), none⟩, ⟨(some 112), (.ext 1 (.tmp 111)), none⟩, ⟨(some 113), (.ext 0 (.tmp 111)), none⟩])
    (.cond (.tmp 112)
    (.seq (.reg [⟨(some 14), (.mv (.tmp 113)), none⟩])
    (.reg [⟨(some 114), (.mv (.tmp 0)), none⟩, ⟨(some 115), (.mv (.tmp 0)), none⟩, ⟨(some 116), (.nilck (.tmp 115)), none⟩, ⟨(some 117), (.fad 8 (.tmp 116)), none⟩, ⟨(some 118), (.ld1 (.tmp 117)), none⟩, ⟨(some 119), (.call 95 [(.tmp 114), (.tmp 118), (.const (.int .i64 0))]), none⟩])) .skip))))))))))))⟩ := by kernel_rfl

/-- (*allotment/seek.Seeker).end -/
theorem tr95 : trF Tryz.prog pures Tryz.f95 = some
  ⟨20, [],
    (.reg [⟨(some 6), (.mv (.tmp 0)), none⟩, ⟨(some 7), (.mv (.tmp 0)), none⟩, ⟨(some 8), (.mv (.tmp 0)), none⟩, ⟨(some 9), (.mv (.tmp 0)), none⟩, ⟨(some 10), (.mv (.tmp 1)), none⟩, ⟨(some 11), (.mv (.tmp 2)), none⟩, ⟨(some 12), (.nilck (.tmp 6)), none⟩, ⟨(some 13), (.fad 8 (.tmp 12)), none⟩, ⟨none, (.st1 (.tmp 13) (.tmp 10)), none⟩, ⟨(some 14), (.nilck (.tmp 7)), none⟩, ⟨(some 15), (.fad 9 (.tmp 14)), none⟩, ⟨none, (.st1 (.tmp 15) (.tmp 11)), none⟩, ⟨(some 16), (.nilck (.tmp 8)), none⟩, ⟨(some 17), (.fad 10 (.tmp 16)), none⟩, ⟨none, (.st1 (.tmp 17) (.const (.bool true))), none⟩, ⟨(some 18), (.nilck (.tmp 9)), none⟩, ⟨(some 19), (.fad 11 (.tmp 18)), none⟩, ⟨none, (.st1 (.tmp 19) (.const (.bool true))), none⟩])⟩ := by kernel_rfl

end Go.Proofs.YtfdhilnaagpecaaGreat
