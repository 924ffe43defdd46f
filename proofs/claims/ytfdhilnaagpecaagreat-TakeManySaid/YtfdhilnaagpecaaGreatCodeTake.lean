/-
  The compact code of functions of this seat, as translated from the model: each translation holds by reckoning. Conditions: none.
-/
import Derived.Test.YtfdhilnaagpecaaGreatCode
set_option maxRecDepth 100000
namespace Go.Proofs.YtfdhilnaagpecaaGreat
open Go Go.Ev

/-- (*allotment/take.Reserver).Done -/
theorem tr10 : trF Tryz.prog pures Tryz.f10 = some
  ⟨28, [(.t 2)],
    (.seq (.reg [⟨(some 2), (.mv (.const (.bool false))), none⟩])
    (.seq (.block 0
    (.seq (.reg [⟨(some 4), (.mv (.tmp 0)), none⟩, ⟨(some 5), (.pnil false (.tmp 4)), none⟩, ⟨(some 3), (.mv (.tmp 5)), none⟩])
    (.cond (.tmp 3)
    (.seq (.reg [⟨(some 2), (.mv (.const (.bool false))), none⟩]) .ret)
    (.seq (.reg [⟨(some 7), (.mv (.tmp 0)), none⟩, ⟨(some 8), (.nilck (.tmp 7)), none⟩, ⟨(some 9), (.fad 2 (.tmp 8)), none⟩, ⟨(some 10), (.ld1 (.tmp 9)), none⟩, ⟨(some 11), (.pnil true (.tmp 10)), none⟩, ⟨(some 6), (.mv (.tmp 11)), none⟩])
    (.cond (.tmp 6)
    (.seq (.reg [⟨(some 12), (.mv (.tmp 0)), none⟩, ⟨(some 13), (.nilck (.tmp 12)), none⟩, ⟨(some 14), (.fad 2 (.tmp 13)), none⟩, ⟨(some 15), (.ld1 (.tmp 14)), none⟩, ⟨(some 16), (.call 38 [(.tmp 15)]), none⟩, ⟨(some 2), (.mv (.tmp 16)), none⟩]) .ret)
    (.seq (.reg [⟨(some 18), (.mv (.tmp 0)), none⟩, ⟨(some 19), (.nilck (.tmp 18)), none⟩, ⟨(some 20), (.fad 3 (.tmp 19)), none⟩, ⟨(some 21), (.ld1 (.tmp 20)), none⟩, ⟨(some 22), (.pnil true (.tmp 21)), none⟩, ⟨(some 17), (.mv (.tmp 22)), none⟩])
    (.cond (.tmp 17)
    (.seq (.reg [⟨(some 23), (.mv (.tmp 0)), none⟩, ⟨(some 24), (.nilck (.tmp 23)), none⟩, ⟨(some 25), (.fad 3 (.tmp 24)), none⟩, ⟨(some 26), (.ld1 (.tmp 25)), none⟩, ⟨(some 27), (.call 39 [(.tmp 26)]), none⟩, ⟨(some 2), (.mv (.tmp 27)), none⟩]) .ret) .skip)))))))
    (.seq (.reg [⟨(some 2), (.mv (.const (.bool true))), none⟩]) .ret)))⟩ := by kernel_rfl

/-- allotment/take.NewCommitter -/
theorem tr11 : trF Tryz.prog pures Tryz.f11 = some
  ⟨17, [(.t 6)],
    (.seq (.reg [⟨(some 3), (.box 26 (.tmp 0)), none⟩, ⟨(some 5), (.box 37 (.tmp 2)), none⟩, ⟨(some 6), (.mv (.const (.pointer none))), none⟩])
    (.seq (.draw (.take ⟨(some 7), (.ldn 3 (.tmp 3)), none⟩ (.take ⟨(some 8), (.mv (.tmp 1)), none⟩ (.take ⟨(some 9), (.ldn 5 (.tmp 5)), none⟩ (.take ⟨(some 10), (.ldn 5 (.tmp 5)), none⟩ (.take ⟨(some 11), (.ldn 3 (.tmp 3)), none⟩ (.take ⟨(some 12), (.mv (.tmp 1)), none⟩ (.alt false ⟨(some 13), (.call 40 [(.tmp 10), (.tmp 11), (.tmp 12)]), none⟩ (.take ⟨(some 14), (.nt (.tmp 13)), none⟩ (.take ⟨(some 15), (.bld #[(.int .i64 0), (.int .i64 0), (.int .i64 0), (.int .i64 0), (.bool false), (.int .i64 0), (.int .i64 0), (.int .i64 0), (.int .i64 0), (.bool false)] [(0, (3, (.tmp 7))), (3, (1, (.tmp 8))), (4, (5, (.tmp 9))), (9, (1, (.tmp 14)))]), none⟩ (.alt false ⟨(some 16), (.box 78 (.tmp 15)), none⟩ (.take ⟨(some 6), (.mv (.tmp 16)), none⟩ .done) .stop))) .stop)))))))) .ret))⟩ := by kernel_rfl

/-- (*allotment/take.Reserver).Step -/
theorem tr12 : trF Tryz.prog pures Tryz.f12 = some
  ⟨18, [],
    (.seq (.reg [⟨(some 4), (.mv (.tmp 0)), none⟩, ⟨(some 5), (.pnil true (.tmp 4)), none⟩])
    (.cond (.tmp 5)
    (.seq (.reg [⟨(some 6), (.mv (.tmp 0)), none⟩, ⟨(some 7), (.nilck (.tmp 6)), none⟩, ⟨(some 8), (.fad 2 (.tmp 7)), none⟩, ⟨(some 9), (.ld1 (.tmp 8)), none⟩, ⟨(some 10), (.mv (.tmp 1)), none⟩, ⟨(some 11), (.call 41 [(.tmp 9), (.tmp 10)]), none⟩])
    (.reg [⟨(some 12), (.mv (.tmp 0)), none⟩, ⟨(some 13), (.nilck (.tmp 12)), none⟩, ⟨(some 14), (.fad 3 (.tmp 13)), none⟩, ⟨(some 15), (.ld1 (.tmp 14)), none⟩, ⟨(some 16), (.mv (.tmp 1)), none⟩, ⟨(some 17), (.call 42 [(.tmp 15), (.tmp 16)]), none⟩])) .skip))⟩ := by kernel_rfl

/-- (*allotment/take.Committer).Done -/
theorem tr14 : trF Tryz.prog pures Tryz.f14 = some
  ⟨11, [(.t 2)],
    (.seq (.reg [⟨(some 2), (.mv (.const (.bool false))), none⟩])
    (.seq (.reg [⟨(some 3), (.mv (.tmp 0)), none⟩, ⟨(some 4), (.pnil true (.tmp 3)), none⟩, ⟨(some 5), (.mv (.tmp 4)), none⟩, ⟨(some 6), (.mv (.tmp 0)), (some (5, true))⟩, ⟨(some 7), (.nilck (.tmp 6)), (some (5, true))⟩, ⟨(some 8), (.fad 9 (.tmp 7)), (some (5, true))⟩, ⟨(some 9), (.ld1 (.tmp 8)), (some (5, true))⟩, ⟨(some 10), (.pick (.tmp 5) (.tmp 9) (.const (.bool false))), none⟩, ⟨(some 2), (.mv (.tmp 10)), none⟩]) .ret))⟩ := by kernel_rfl

/-- (allotment/take.Block).Length -/
theorem tr16 : trF Tryz.prog pures Tryz.f16 = some
  ⟨11, [(.t 2)],
    (.seq (.reg [⟨(some 1), (.box 37 (.tmp 0)), none⟩, ⟨(some 2), (.mv (.const (.int .i64 0))), none⟩])
    (.seq (.seq
    (.reg [⟨(some 3), (.fad 0 (.tmp 1)), none⟩, ⟨(some 4), (.ld1 (.tmp 3)), none⟩])
    (.cond (.tmp 4)
    (.seq (.reg [⟨(some 5), (.fad 4 (.tmp 1)), none⟩, ⟨(some 6), (.ld1 (.tmp 5)), none⟩, ⟨(some 7), (.ar .mul (.tmp 6) (.const (.int .i64 64))), none⟩, ⟨(some 2), (.mv (.tmp 7)), none⟩]) .ret) .skip))
    (.seq (.reg [⟨(some 8), (.fad 3 (.tmp 1)), none⟩, ⟨(some 9), (.ld1 (.tmp 8)), none⟩, ⟨(some 10), (.pcall 46 [(.tmp 9)]), none⟩, ⟨(some 2), (.mv (.tmp 10)), none⟩]) .ret)))⟩ := by kernel_rfl

/-- (allotment/take.Block).At -/
theorem tr18 : trF Tryz.prog pures Tryz.f18 = some
  ⟨15, [(.t 2)],
    (.seq (.reg [⟨(some 1), (.box 37 (.tmp 0)), none⟩, ⟨(some 2), (.mv (.const (.int .i64 0))), none⟩])
    (.seq (.seq
    (.reg [⟨(some 3), (.fad 0 (.tmp 1)), none⟩, ⟨(some 4), (.ld1 (.tmp 3)), none⟩])
    (.cond (.tmp 4)
    (.seq (.reg [⟨(some 5), (.fad 1 (.tmp 1)), none⟩, ⟨(some 6), (.ld1 (.tmp 5)), none⟩, ⟨(some 7), (.ar .mul (.tmp 6) (.const (.int .i64 64))), none⟩, ⟨(some 2), (.mv (.tmp 7)), none⟩]) .ret) .skip))
    (.seq (.reg [⟨(some 8), (.fad 1 (.tmp 1)), none⟩, ⟨(some 9), (.ld1 (.tmp 8)), none⟩, ⟨(some 10), (.fad 2 (.tmp 1)), none⟩, ⟨(some 11), (.ld1 (.tmp 10)), none⟩, ⟨(some 12), (.fad 3 (.tmp 1)), none⟩, ⟨(some 13), (.ld1 (.tmp 12)), none⟩, ⟨(some 14), (.pcall 47 [(.tmp 9), (.tmp 11), (.tmp 13)]), none⟩, ⟨(some 2), (.mv (.tmp 14)), none⟩]) .ret)))⟩ := by kernel_rfl

/-- (allotment/take.Block).fits -/
theorem tr40 : trF Tryz.prog pures Tryz.f40 = some
  ⟨49, [(.t 6)],
    (.seq (.reg [⟨(some 3), (.box 37 (.tmp 0)), none⟩, ⟨(some 4), (.box 26 (.tmp 1)), none⟩, ⟨(some 6), (.mv (.const (.bool false))), none⟩])
    (.seq (.seq
    (.reg [⟨(some 7), (.ldn 3 (.tmp 4)), none⟩, ⟨(some 8), (.mv (.tmp 2)), none⟩, ⟨(some 9), (.pcall 61 [(.tmp 7), (.tmp 8)]), none⟩, ⟨(some 10), (.cmp .lss (.tmp 9) (.const (.int .i64 0))), none⟩, ⟨(some 11), (.mv (.tmp 10)), none⟩, ⟨(some 12), (.ldn 3 (.tmp 4)), (some (11, false))⟩, ⟨(some 13), (.fad 1 (.tmp 3)), (some (11, false))⟩, ⟨(some 14), (.ld1 (.tmp 13)), (some (11, false))⟩, ⟨(some 15), (.pcall 34 [(.tmp 12), (.tmp 14)]), (some (11, false))⟩, ⟨(some 16), (.cmp .lss (.tmp 15) (.const (.int .i64 0))), (some (11, false))⟩, ⟨(some 17), (.pick (.tmp 11) (.const (.bool true)) (.tmp 16)), none⟩])
    (.cond (.tmp 17)
    (.seq (.reg [⟨(some 6), (.mv (.const (.bool false))), none⟩]) .ret) .skip))
    (.seq (.seq
    (.reg [⟨(some 18), (.fad 0 (.tmp 3)), none⟩, ⟨(some 19), (.ld1 (.tmp 18)), none⟩])
    (.cond (.tmp 19)
    (.seq (.reg [⟨(some 20), (.fad 4 (.tmp 3)), none⟩, ⟨(some 21), (.ld1 (.tmp 20)), none⟩, ⟨(some 22), (.cmp .geq (.tmp 21) (.const (.int .i64 1))), none⟩, ⟨(some 23), (.mv (.tmp 22)), none⟩, ⟨(some 24), (.fad 4 (.tmp 3)), (some (23, true))⟩, ⟨(some 25), (.ld1 (.tmp 24)), (some (23, true))⟩, ⟨(some 26), (.cmp .leq (.tmp 25) (.const (.int .i64 8))), (some (23, true))⟩, ⟨(some 27), (.pick (.tmp 23) (.tmp 26) (.const (.bool false))), none⟩, ⟨(some 28), (.mv (.tmp 27)), none⟩, ⟨(some 29), (.fad 4 (.tmp 3)), (some (28, true))⟩, ⟨(some 30), (.ld1 (.tmp 29)), (some (28, true))⟩, ⟨(some 31), (.fad 0 (.tmp 4)), (some (28, true))⟩, ⟨(some 32), (.ld1 (.tmp 31)), (some (28, true))⟩, ⟨(some 33), (.fad 1 (.tmp 3)), (some (28, true))⟩, ⟨(some 34), (.ld1 (.tmp 33)), (some (28, true))⟩, ⟨(some 35), (.ar .sub (.tmp 32) (.tmp 34)), (some (28, true))⟩, ⟨(some 36), (.cmp .leq (.tmp 30) (.tmp 35)), (some (28, true))⟩, ⟨(some 37), (.pick (.tmp 28) (.tmp 36) (.const (.bool false))), none⟩, ⟨(some 6), (.mv (.tmp 37)), none⟩]) .ret) .skip))
    (.seq (.reg [⟨(some 38), (.fad 2 (.tmp 3)), none⟩, ⟨(some 39), (.ld1 (.tmp 38)), none⟩, ⟨(some 40), (.cmp .geq (.tmp 39) (.const (.int .i64 0))), none⟩, ⟨(some 41), (.mv (.tmp 40)), none⟩, ⟨(some 42), (.fad 2 (.tmp 3)), (some (41, true))⟩, ⟨(some 43), (.ld1 (.tmp 42)), (some (41, true))⟩, ⟨(some 44), (.fad 3 (.tmp 3)), (some (41, true))⟩, ⟨(some 45), (.ld1 (.tmp 44)), (some (41, true))⟩, ⟨(some 46), (.pcall 62 [(.tmp 45)]), (some (41, true))⟩, ⟨(some 47), (.cmp .lss (.tmp 43) (.tmp 46)), (some (41, true))⟩, ⟨(some 48), (.pick (.tmp 41) (.tmp 47) (.const (.bool false))), none⟩, ⟨(some 6), (.mv (.tmp 48)), none⟩]) .ret))))⟩ := by kernel_rfl

/-- allotment/take.NewReserver -/
theorem tr7 : trF Tryz.prog pures Tryz.f7 = some
  ⟨42, [(.t 8)],
    (.seq (.reg [⟨(some 4), (.box 26 (.tmp 0)), none⟩, ⟨(some 8), (.mv (.const (.pointer none))), none⟩])
    (.seq (.seq
    (.reg [⟨(some 14), (.mv (.tmp 2)), none⟩, ⟨(some 15), (.pcall 27 [(.tmp 14)]), none⟩, ⟨(some 13), (.mv (.tmp 15)), none⟩, ⟨(some 16), (.ext 0 (.tmp 13)), none⟩, ⟨(some 17), (.ext 1 (.tmp 13)), none⟩, ⟨(some 9), (.mv (.tmp 16)), none⟩, ⟨(some 10), (.mv (.tmp 17)), none⟩])
    (.seq (.reg [⟨(some 18), (.mv (.tmp 10)), none⟩])
    (.cond (.tmp 18)
    (.seq (.reg [⟨(some 19), (.mv (.tmp 9)), none⟩, ⟨(some 20), (.ldn 3 (.tmp 4)), none⟩, ⟨(some 21), (.mv (.tmp 1)), none⟩, ⟨(some 22), (.mv (.tmp 9)), none⟩, ⟨(some 23), (.mv (.tmp 3)), none⟩, ⟨(some 24), (.call 28 [(.tmp 20), (.tmp 21), (.tmp 22), (.tmp 23)]), none⟩, ⟨(some 25), (.bld #[(.int .i64 0), (.int .i64 0), (.pointer none), (.pointer none)] [(0, (1, (.tmp 19))), (2, (1, (.tmp 24)))]), none⟩, ⟨(some 26), (.box 72 (.tmp 25)), none⟩, ⟨(some 8), (.mv (.tmp 26)), none⟩]) .ret) .skip)))
    (.seq (.seq
    (.reg [⟨(some 28), (.mv (.tmp 2)), none⟩, ⟨(some 29), (.pcall 29 [(.tmp 28)]), none⟩, ⟨(some 27), (.mv (.tmp 29)), none⟩, ⟨(some 30), (.ext 0 (.tmp 27)), none⟩, ⟨(some 31), (.ext 1 (.tmp 27)), none⟩, ⟨(some 11), (.mv (.tmp 30)), none⟩, ⟨(some 12), (.mv (.tmp 31)), none⟩])
    (.seq (.reg [⟨(some 32), (.mv (.tmp 12)), none⟩])
    (.cond (.tmp 32)
    (.seq (.reg [⟨(some 33), (.mv (.tmp 11)), none⟩, ⟨(some 34), (.ldn 3 (.tmp 4)), none⟩, ⟨(some 35), (.mv (.tmp 1)), none⟩, ⟨(some 36), (.mv (.tmp 11)), none⟩, ⟨(some 37), (.call 30 [(.tmp 34), (.tmp 35), (.tmp 36)]), none⟩, ⟨(some 38), (.bld #[(.int .i64 0), (.int .i64 0), (.pointer none), (.pointer none)] [(1, (1, (.tmp 33))), (3, (1, (.tmp 37)))]), none⟩, ⟨(some 39), (.box 72 (.tmp 38)), none⟩, ⟨(some 8), (.mv (.tmp 39)), none⟩]) .ret) .skip)))
    (.seq (.reg [⟨(some 40), (.bld #[(.int .i64 0), (.int .i64 0), (.pointer none), (.pointer none)] []), none⟩, ⟨(some 41), (.box 72 (.tmp 40)), none⟩, ⟨(some 8), (.mv (.tmp 41)), none⟩]) .ret))))⟩ := by kernel_rfl

/-- (*allotment/take.Reserver).Found -/
theorem tr8 : trF Tryz.prog pures Tryz.f8 = some
  ⟨45, [(.cn 2 5), (.t 3)],
    (.seq (.reg [⟨(some 2), (.alc 37 (.agg #[(.bool false), (.int .i64 0), (.int .i64 0), (.int .i64 0), (.int .i64 0)])), none⟩, ⟨(some 3), (.mv (.const (.bool false))), none⟩])
    (.seq (.seq
    (.reg [⟨(some 9), (.mv (.tmp 0)), none⟩, ⟨(some 10), (.pnil false (.tmp 9)), none⟩])
    (.cond (.tmp 10)
    (.seq (.reg [⟨(some 11), (.bld #[(.bool false), (.int .i64 0), (.int .i64 0), (.int .i64 0), (.int .i64 0)] []), none⟩, ⟨none, (.stn 5 (.tmp 2) (.tmp 11)), none⟩, ⟨(some 3), (.mv (.const (.bool false))), none⟩]) .ret) .skip))
    (.seq (.seq
    (.reg [⟨(some 13), (.mv (.tmp 0)), none⟩, ⟨(some 14), (.nilck (.tmp 13)), none⟩, ⟨(some 15), (.fad 2 (.tmp 14)), none⟩, ⟨(some 16), (.ld1 (.tmp 15)), none⟩, ⟨(some 17), (.call 31 [(.tmp 16)]), none⟩, ⟨(some 12), (.mv (.tmp 17)), none⟩, ⟨(some 18), (.ext 0 (.tmp 12)), none⟩, ⟨(some 19), (.ext 1 (.tmp 12)), none⟩, ⟨(some 20), (.ext 2 (.tmp 12)), none⟩, ⟨(some 4), (.mv (.tmp 18)), none⟩, ⟨(some 5), (.mv (.tmp 19)), none⟩, ⟨(some 6), (.mv (.tmp 20)), none⟩])
    (.seq (.reg [⟨(some 21), (.mv (.tmp 6)), none⟩])
    (.cond (.tmp 21)
    (.seq (.reg [⟨(some 22), (.mv (.tmp 4)), none⟩, ⟨(some 23), (.mv (.tmp 5)), none⟩, ⟨(some 24), (.mv (.tmp 0)), none⟩, ⟨(some 25), (.nilck (.tmp 24)), none⟩, ⟨(some 26), (.fad 0 (.tmp 25)), none⟩, ⟨(some 27), (.ld1 (.tmp 26)), none⟩, ⟨(some 28), (.bld #[(.bool false), (.int .i64 0), (.int .i64 0), (.int .i64 0), (.int .i64 0)] [(1, (1, (.tmp 22))), (2, (1, (.tmp 23))), (3, (1, (.tmp 27)))]), none⟩, ⟨none, (.stn 5 (.tmp 2) (.tmp 28)), none⟩, ⟨(some 3), (.mv (.const (.bool true))), none⟩]) .ret) .skip)))
    (.seq (.seq
    (.reg [⟨(some 30), (.mv (.tmp 0)), none⟩, ⟨(some 31), (.nilck (.tmp 30)), none⟩, ⟨(some 32), (.fad 3 (.tmp 31)), none⟩, ⟨(some 33), (.ld1 (.tmp 32)), none⟩, ⟨(some 34), (.call 32 [(.tmp 33)]), none⟩, ⟨(some 29), (.mv (.tmp 34)), none⟩, ⟨(some 35), (.ext 0 (.tmp 29)), none⟩, ⟨(some 36), (.ext 1 (.tmp 29)), none⟩, ⟨(some 7), (.mv (.tmp 35)), none⟩, ⟨(some 8), (.mv (.tmp 36)), none⟩])
    (.seq (.reg [⟨(some 37), (.mv (.tmp 8)), none⟩])
    (.cond (.tmp 37)
    (.seq (.reg [⟨(some 38), (.mv (.tmp 7)), none⟩, ⟨(some 39), (.mv (.tmp 0)), none⟩, ⟨(some 40), (.nilck (.tmp 39)), none⟩, ⟨(some 41), (.fad 1 (.tmp 40)), none⟩, ⟨(some 42), (.ld1 (.tmp 41)), none⟩, ⟨(some 43), (.bld #[(.bool false), (.int .i64 0), (.int .i64 0), (.int .i64 0), (.int .i64 0)] [(0, (1, (.const (.bool true)))), (1, (1, (.tmp 38))), (4, (1, (.tmp 42)))]), none⟩, ⟨none, (.stn 5 (.tmp 2) (.tmp 43)), none⟩, ⟨(some 3), (.mv (.const (.bool true))), none⟩]) .ret) .skip)))
    (.seq (.reg [⟨(some 44), (.bld #[(.bool false), (.int .i64 0), (.int .i64 0), (.int .i64 0), (.int .i64 0)] []), none⟩, ⟨none, (.stn 5 (.tmp 2) (.tmp 44)), none⟩, ⟨(some 3), (.mv (.const (.bool false))), none⟩]) .ret)))))⟩ := by kernel_rfl

/-- (*allotment/take.Committer).Step -/
theorem tr9 : trF Tryz.prog pures Tryz.f9 = some
  ⟨71, [],
    (.seq (.seq
    (.reg [⟨(some 4), (.mv (.tmp 0)), none⟩, ⟨(some 5), (.pnil false (.tmp 4)), none⟩, ⟨(some 6), (.mv (.tmp 5)), none⟩, ⟨(some 7), (.mv (.tmp 0)), (some (6, false))⟩, ⟨(some 8), (.nilck (.tmp 7)), (some (6, false))⟩, ⟨(some 9), (.fad 9 (.tmp 8)), (some (6, false))⟩, ⟨(some 10), (.ld1 (.tmp 9)), (some (6, false))⟩, ⟨(some 11), (.pick (.tmp 6) (.const (.bool true)) (.tmp 10)), none⟩])
    (.cond (.tmp 11) .ret .skip))
    (.seq (.seq
    (.reg [⟨(some 12), (.mv (.tmp 0)), none⟩, ⟨(some 13), (.nilck (.tmp 12)), none⟩, ⟨(some 14), (.fad 4 (.tmp 13)), none⟩, ⟨(some 15), (.fad 0 (.tmp 14)), none⟩, ⟨(some 16), (.ld1 (.tmp 15)), none⟩])
    (.cond (.tmp 16)
    (.draw (.take ⟨(some 17), (.mv (.tmp 1)), none⟩ (.take ⟨(some 18), (.mv (.tmp 0)), none⟩ (.take ⟨(some 19), (.nilck (.tmp 18)), none⟩ (.take ⟨(some 20), (.fad 3 (.tmp 19)), none⟩ (.take ⟨(some 21), (.ld1 (.tmp 20)), none⟩ (.take ⟨(some 22), (.mv (.tmp 0)), none⟩ (.take ⟨(some 23), (.nilck (.tmp 22)), none⟩ (.take ⟨(some 24), (.fad 0 (.tmp 23)), none⟩ (.take ⟨(some 25), (.ldn 3 (.tmp 24)), none⟩ (.take ⟨(some 26), (.mv (.tmp 0)), none⟩ (.take ⟨(some 27), (.nilck (.tmp 26)), none⟩ (.take ⟨(some 28), (.fad 4 (.tmp 27)), none⟩ (.take ⟨(some 29), (.fad 1 (.tmp 28)), none⟩ (.take ⟨(some 30), (.ld1 (.tmp 29)), none⟩ (.take ⟨(some 32), (.mv (.tmp 0)), none⟩ (.take ⟨(some 33), (.nilck (.tmp 32)), none⟩ (.take ⟨(some 34), (.fad 4 (.tmp 33)), none⟩ (.take ⟨(some 35), (.fad 4 (.tmp 34)), none⟩ (.take ⟨(some 36), (.ld1 (.tmp 35)), none⟩ (.take ⟨(some 37), (.bld #[(.int .i64 0), (.int .i64 0), (.int .i64 0)] [(0, (1, (.const (.int .i64 3)))), (1, (1, (.tmp 36)))]), none⟩ (.alt false ⟨(some 31), (.pcall 34 [(.tmp 25), (.tmp 30)]), none⟩ (.alt false ⟨(some 38), (.pcall 35 [(.tmp 37)]), none⟩ (.alt true ⟨(some 39), (.call 33 [(.tmp 17), (.tmp 21), (.tmp 31), (.tmp 38)]), none⟩ .done .stop) .stop) .stop))))))))))))))))))))))
    (.draw (.take ⟨(some 40), (.mv (.tmp 1)), none⟩ (.take ⟨(some 41), (.mv (.tmp 0)), none⟩ (.take ⟨(some 42), (.nilck (.tmp 41)), none⟩ (.take ⟨(some 43), (.fad 3 (.tmp 42)), none⟩ (.take ⟨(some 44), (.ld1 (.tmp 43)), none⟩ (.take ⟨(some 45), (.mv (.tmp 0)), none⟩ (.take ⟨(some 46), (.nilck (.tmp 45)), none⟩ (.take ⟨(some 47), (.fad 0 (.tmp 46)), none⟩ (.take ⟨(some 48), (.ldn 3 (.tmp 47)), none⟩ (.take ⟨(some 49), (.mv (.tmp 0)), none⟩ (.take ⟨(some 50), (.nilck (.tmp 49)), none⟩ (.take ⟨(some 51), (.fad 4 (.tmp 50)), none⟩ (.take ⟨(some 52), (.fad 1 (.tmp 51)), none⟩ (.take ⟨(some 53), (.ld1 (.tmp 52)), none⟩ (.take ⟨(some 54), (.mv (.tmp 0)), none⟩ (.take ⟨(some 55), (.nilck (.tmp 54)), none⟩ (.take ⟨(some 56), (.fad 4 (.tmp 55)), none⟩ (.take ⟨(some 57), (.fad 2 (.tmp 56)), none⟩ (.take ⟨(some 58), (.ld1 (.tmp 57)), none⟩ (.take ⟨(some 60), (.mv (.tmp 0)), none⟩ (.take ⟨(some 61), (.nilck (.tmp 60)), none⟩ (.take ⟨(some 62), (.fad 4 (.tmp 61)), none⟩ (.take ⟨(some 63), (.fad 3 (.tmp 62)), none⟩ (.take ⟨(some 64), (.ld1 (.tmp 63)), none⟩ (.take ⟨(some 65), (.bld #[(.int .i64 0), (.int .i64 0)] [(0, (1, (.const (.int .i64 3)))), (1, (1, (.tmp 64)))]), none⟩ (.alt false ⟨(some 59), (.pcall 36 [(.tmp 48), (.tmp 53), (.tmp 58)]), none⟩ (.alt false ⟨(some 66), (.pcall 37 [(.tmp 65)]), none⟩ (.alt true ⟨(some 67), (.call 33 [(.tmp 40), (.tmp 44), (.tmp 59), (.tmp 66)]), none⟩ .done .stop) .stop) .stop)))))))))))))))))))))))))))))
    (.reg [⟨(some 68), (.mv (.tmp 0)), none⟩, ⟨(some 69), (.nilck (.tmp 68)), none⟩, ⟨(some 70), (.fad 9 (.tmp 69)), none⟩, ⟨none, (.st1 (.tmp 70) (.const (.bool true))), none⟩])))⟩ := by kernel_rfl

end Go.Proofs.YtfdhilnaagpecaaGreat
