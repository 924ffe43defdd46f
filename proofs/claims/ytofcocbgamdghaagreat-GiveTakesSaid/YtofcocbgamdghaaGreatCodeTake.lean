/-
  The compact code of functions of this seat, as translated from the model: each translation holds by reckoning. Conditions: none.
-/
import Derived.Test.YtofcocbgamdghaaGreatCode
set_option maxRecDepth 100000
namespace Go.Proofs.YtofcocbgamdghaaGreat
open Go Go.Ev

/-- allotment/take.NewReserver -/
theorem tr10 : trF Tryz.prog pures Tryz.f10 = some
  ⟨42, [(.t 8)],
    (.seq (.reg [⟨(some 4), (.box 26 (.tmp 0)), none⟩, ⟨(some 8), (.mv (.const (.pointer none))), none⟩])
    (.seq (.seq
    (.reg [⟨(some 14), (.mv (.tmp 2)), none⟩, ⟨(some 15), (.pcall 29 [(.tmp 14)]), none⟩, ⟨(some 13), (.mv (.tmp 15)), none⟩, ⟨(some 16), (.ext 0 (.tmp 13)), none⟩, ⟨(some 17), (.ext 1 (.tmp 13)), none⟩, ⟨(some 9), (.mv (.tmp 16)), none⟩, ⟨(some 10), (.mv (.tmp 17)), none⟩])
    (.seq (.reg [⟨(some 18), (.mv (.tmp 10)), none⟩])
    (.cond (.tmp 18)
    (.seq (.reg [⟨(some 19), (.mv (.tmp 9)), none⟩, ⟨(some 20), (.ldn 3 (.tmp 4)), none⟩, ⟨(some 21), (.mv (.tmp 1)), none⟩, ⟨(some 22), (.mv (.tmp 9)), none⟩, ⟨(some 23), (.mv (.tmp 3)), none⟩, ⟨(some 24), (.call 30 [(.tmp 20), (.tmp 21), (.tmp 22), (.tmp 23)]), none⟩, ⟨(some 25), (.bld #[(.int .i64 0), (.int .i64 0), (.pointer none), (.pointer none)] [(0, (1, (.tmp 19))), (2, (1, (.tmp 24)))]), none⟩, ⟨(some 26), (.box 70 (.tmp 25)), none⟩, ⟨(some 8), (.mv (.tmp 26)), none⟩]) .ret) .skip)))
    (.seq (.seq
    (.reg [⟨(some 28), (.mv (.tmp 2)), none⟩, ⟨(some 29), (.pcall 31 [(.tmp 28)]), none⟩, ⟨(some 27), (.mv (.tmp 29)), none⟩, ⟨(some 30), (.ext 0 (.tmp 27)), none⟩, ⟨(some 31), (.ext 1 (.tmp 27)), none⟩, ⟨(some 11), (.mv (.tmp 30)), none⟩, ⟨(some 12), (.mv (.tmp 31)), none⟩])
    (.seq (.reg [⟨(some 32), (.mv (.tmp 12)), none⟩])
    (.cond (.tmp 32)
    (.seq (.reg [⟨(some 33), (.mv (.tmp 11)), none⟩, ⟨(some 34), (.ldn 3 (.tmp 4)), none⟩, ⟨(some 35), (.mv (.tmp 1)), none⟩, ⟨(some 36), (.mv (.tmp 11)), none⟩, ⟨(some 37), (.call 32 [(.tmp 34), (.tmp 35), (.tmp 36)]), none⟩, ⟨(some 38), (.bld #[(.int .i64 0), (.int .i64 0), (.pointer none), (.pointer none)] [(1, (1, (.tmp 33))), (3, (1, (.tmp 37)))]), none⟩, ⟨(some 39), (.box 70 (.tmp 38)), none⟩, ⟨(some 8), (.mv (.tmp 39)), none⟩]) .ret) .skip)))
    (.seq (.reg [⟨(some 40), (.bld #[(.int .i64 0), (.int .i64 0), (.pointer none), (.pointer none)] []), none⟩, ⟨(some 41), (.box 70 (.tmp 40)), none⟩, ⟨(some 8), (.mv (.tmp 41)), none⟩]) .ret))))⟩ := by kernel_rfl

/-- (*allotment/take.Reserver).Step -/
theorem tr11 : trF Tryz.prog pures Tryz.f11 = some
  ⟨18, [],
    (.seq (.reg [⟨(some 4), (.mv (.tmp 0)), none⟩, ⟨(some 5), (.pnil true (.tmp 4)), none⟩])
    (.cond (.tmp 5)
    (.seq (.reg [⟨(some 6), (.mv (.tmp 0)), none⟩, ⟨(some 7), (.nilck (.tmp 6)), none⟩, ⟨(some 8), (.fad 2 (.tmp 7)), none⟩, ⟨(some 9), (.ld1 (.tmp 8)), none⟩, ⟨(some 10), (.mv (.tmp 1)), none⟩, ⟨(some 11), (.call 33 [(.tmp 9), (.tmp 10)]), none⟩])
    (.reg [⟨(some 12), (.mv (.tmp 0)), none⟩, ⟨(some 13), (.nilck (.tmp 12)), none⟩, ⟨(some 14), (.fad 3 (.tmp 13)), none⟩, ⟨(some 15), (.ld1 (.tmp 14)), none⟩, ⟨(some 16), (.mv (.tmp 1)), none⟩, ⟨(some 17), (.call 34 [(.tmp 15), (.tmp 16)]), none⟩])) .skip))⟩ := by kernel_rfl

/-- (*allotment/take.Reserver).Found -/
theorem tr13 : trF Tryz.prog pures Tryz.f13 = some
  ⟨45, [(.cn 2 5), (.t 3)],
    (.seq (.reg [⟨(some 2), (.alc 42 (.agg #[(.bool false), (.int .i64 0), (.int .i64 0), (.int .i64 0), (.int .i64 0)])), none⟩, ⟨(some 3), (.mv (.const (.bool false))), none⟩])
    (.seq (.seq
    (.reg [⟨(some 9), (.mv (.tmp 0)), none⟩, ⟨(some 10), (.pnil false (.tmp 9)), none⟩])
    (.cond (.tmp 10)
    (.seq (.reg [⟨(some 11), (.bld #[(.bool false), (.int .i64 0), (.int .i64 0), (.int .i64 0), (.int .i64 0)] []), none⟩, ⟨none, (.stn 5 (.tmp 2) (.tmp 11)), none⟩, ⟨(some 3), (.mv (.const (.bool false))), none⟩]) .ret) .skip))
    (.seq (.seq
    (.reg [⟨(some 13), (.mv (.tmp 0)), none⟩, ⟨(some 14), (.nilck (.tmp 13)), none⟩, ⟨(some 15), (.fad 2 (.tmp 14)), none⟩, ⟨(some 16), (.ld1 (.tmp 15)), none⟩, ⟨(some 17), (.call 43 [(.tmp 16)]), none⟩, ⟨(some 12), (.mv (.tmp 17)), none⟩, ⟨(some 18), (.ext 0 (.tmp 12)), none⟩, ⟨(some 19), (.ext 1 (.tmp 12)), none⟩, ⟨(some 20), (.ext 2 (.tmp 12)), none⟩, ⟨(some 4), (.mv (.tmp 18)), none⟩, ⟨(some 5), (.mv (.tmp 19)), none⟩, ⟨(some 6), (.mv (.tmp 20)), none⟩])
    (.seq (.reg [⟨(some 21), (.mv (.tmp 6)), none⟩])
    (.cond (.tmp 21)
    (.seq (.reg [⟨(some 22), (.mv (.tmp 4)), none⟩, ⟨(some 23), (.mv (.tmp 5)), none⟩, ⟨(some 24), (.mv (.tmp 0)), none⟩, ⟨(some 25), (.nilck (.tmp 24)), none⟩, ⟨(some 26), (.fad 0 (.tmp 25)), none⟩, ⟨(some 27), (.ld1 (.tmp 26)), none⟩, ⟨(some 28), (.bld #[(.bool false), (.int .i64 0), (.int .i64 0), (.int .i64 0), (.int .i64 0)] [(1, (1, (.tmp 22))), (2, (1, (.tmp 23))), (3, (1, (.tmp 27)))]), none⟩, ⟨none, (.stn 5 (.tmp 2) (.tmp 28)), none⟩, ⟨(some 3), (.mv (.const (.bool true))), none⟩]) .ret) .skip)))
    (.seq (.seq
    (.reg [⟨(some 30), (.mv (.tmp 0)), none⟩, ⟨(some 31), (.nilck (.tmp 30)), none⟩, ⟨(some 32), (.fad 3 (.tmp 31)), none⟩, ⟨(some 33), (.ld1 (.tmp 32)), none⟩, ⟨(some 34), (.call 44 [(.tmp 33)]), none⟩, ⟨(some 29), (.mv (.tmp 34)), none⟩, ⟨(some 35), (.ext 0 (.tmp 29)), none⟩, ⟨(some 36), (.ext 1 (.tmp 29)), none⟩, ⟨(some 7), (.mv (.tmp 35)), none⟩, ⟨(some 8), (.mv (.tmp 36)), none⟩])
    (.seq (.reg [⟨(some 37), (.mv (.tmp 8)), none⟩])
    (.cond (.tmp 37)
    (.seq (.reg [⟨(some 38), (.mv (.tmp 7)), none⟩, ⟨(some 39), (.mv (.tmp 0)), none⟩, ⟨(some 40), (.nilck (.tmp 39)), none⟩, ⟨(some 41), (.fad 1 (.tmp 40)), none⟩, ⟨(some 42), (.ld1 (.tmp 41)), none⟩, ⟨(some 43), (.bld #[(.bool false), (.int .i64 0), (.int .i64 0), (.int .i64 0), (.int .i64 0)] [(0, (1, (.const (.bool true)))), (1, (1, (.tmp 38))), (4, (1, (.tmp 42)))]), none⟩, ⟨none, (.stn 5 (.tmp 2) (.tmp 43)), none⟩, ⟨(some 3), (.mv (.const (.bool true))), none⟩]) .ret) .skip)))
    (.seq (.reg [⟨(some 44), (.bld #[(.bool false), (.int .i64 0), (.int .i64 0), (.int .i64 0), (.int .i64 0)] []), none⟩, ⟨none, (.stn 5 (.tmp 2) (.tmp 44)), none⟩, ⟨(some 3), (.mv (.const (.bool false))), none⟩]) .ret)))))⟩ := by kernel_rfl

/-- (*allotment/take.Reserver).Done -/
theorem tr19 : trF Tryz.prog pures Tryz.f19 = some
  ⟨28, [(.t 2)],
    (.seq (.reg [⟨(some 2), (.mv (.const (.bool false))), none⟩])
    (.seq (.block 0
    (.seq (.reg [⟨(some 4), (.mv (.tmp 0)), none⟩, ⟨(some 5), (.pnil false (.tmp 4)), none⟩, ⟨(some 3), (.mv (.tmp 5)), none⟩])
    (.cond (.tmp 3)
    (.seq (.reg [⟨(some 2), (.mv (.const (.bool false))), none⟩]) .ret)
    (.seq (.reg [⟨(some 7), (.mv (.tmp 0)), none⟩, ⟨(some 8), (.nilck (.tmp 7)), none⟩, ⟨(some 9), (.fad 2 (.tmp 8)), none⟩, ⟨(some 10), (.ld1 (.tmp 9)), none⟩, ⟨(some 11), (.pnil true (.tmp 10)), none⟩, ⟨(some 6), (.mv (.tmp 11)), none⟩])
    (.cond (.tmp 6)
    (.seq (.reg [⟨(some 12), (.mv (.tmp 0)), none⟩, ⟨(some 13), (.nilck (.tmp 12)), none⟩, ⟨(some 14), (.fad 2 (.tmp 13)), none⟩, ⟨(some 15), (.ld1 (.tmp 14)), none⟩, ⟨(some 16), (.call 56 [(.tmp 15)]), none⟩, ⟨(some 2), (.mv (.tmp 16)), none⟩]) .ret)
    (.seq (.reg [⟨(some 18), (.mv (.tmp 0)), none⟩, ⟨(some 19), (.nilck (.tmp 18)), none⟩, ⟨(some 20), (.fad 3 (.tmp 19)), none⟩, ⟨(some 21), (.ld1 (.tmp 20)), none⟩, ⟨(some 22), (.pnil true (.tmp 21)), none⟩, ⟨(some 17), (.mv (.tmp 22)), none⟩])
    (.cond (.tmp 17)
    (.seq (.reg [⟨(some 23), (.mv (.tmp 0)), none⟩, ⟨(some 24), (.nilck (.tmp 23)), none⟩, ⟨(some 25), (.fad 3 (.tmp 24)), none⟩, ⟨(some 26), (.ld1 (.tmp 25)), none⟩, ⟨(some 27), (.call 57 [(.tmp 26)]), none⟩, ⟨(some 2), (.mv (.tmp 27)), none⟩]) .ret) .skip)))))))
    (.seq (.reg [⟨(some 2), (.mv (.const (.bool true))), none⟩]) .ret)))⟩ := by kernel_rfl

/-- (allotment/take.Block).Length -/
theorem tr20 : trF Tryz.prog pures Tryz.f20 = some
  ⟨11, [(.t 2)],
    (.seq (.reg [⟨(some 1), (.box 42 (.tmp 0)), none⟩, ⟨(some 2), (.mv (.const (.int .i64 0))), none⟩])
    (.seq (.seq
    (.reg [⟨(some 3), (.fad 0 (.tmp 1)), none⟩, ⟨(some 4), (.ld1 (.tmp 3)), none⟩])
    (.cond (.tmp 4)
    (.seq (.reg [⟨(some 5), (.fad 4 (.tmp 1)), none⟩, ⟨(some 6), (.ld1 (.tmp 5)), none⟩, ⟨(some 7), (.ar .mul (.tmp 6) (.const (.int .i64 64))), none⟩, ⟨(some 2), (.mv (.tmp 7)), none⟩]) .ret) .skip))
    (.seq (.reg [⟨(some 8), (.fad 3 (.tmp 1)), none⟩, ⟨(some 9), (.ld1 (.tmp 8)), none⟩, ⟨(some 10), (.pcall 58 [(.tmp 9)]), none⟩, ⟨(some 2), (.mv (.tmp 10)), none⟩]) .ret)))⟩ := by kernel_rfl

end Go.Proofs.YtofcocbgamdghaaGreat
