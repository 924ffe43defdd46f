/-
 The compact code of functions of this seat, as translated from the model: each translation holds by reckoning. Conditions: none.
-/
import Derived.Test.YtapkiooeemamjaaGreatCode
set_option maxRecDepth 100000
namespace Go.Proofs.YtapkiooeemamjaaGreat
open Go Go.Ev

/-- (allotment/take.Block).At -/
theorem tr21 : trF Tryz.prog pures Tryz.f21 = some
 ⟨15, [(.t 2)],
  (.seq (.reg [⟨(some 1), (.box 35 (.tmp 0)), none⟩, ⟨(some 2), (.mv (.const (.int .i64 0))), none⟩])
  (.seq (.seq
  (.reg [⟨(some 3), (.fad 0 (.tmp 1)), none⟩, ⟨(some 4), (.ld1 (.tmp 3)), none⟩])
  (.cond (.tmp 4)
  (.seq (.reg [⟨(some 5), (.fad 1 (.tmp 1)), none⟩, ⟨(some 6), (.ld1 (.tmp 5)), none⟩, ⟨(some 7), (.ar .mul (.tmp 6) (.const (.int .i64 64))), none⟩, ⟨(some 2), (.mv (.tmp 7)), none⟩]) .ret) .skip))
  (.seq (.reg [⟨(some 8), (.fad 1 (.tmp 1)), none⟩, ⟨(some 9), (.ld1 (.tmp 8)), none⟩, ⟨(some 10), (.fad 2 (.tmp 1)), none⟩, ⟨(some 11), (.ld1 (.tmp 10)), none⟩, ⟨(some 12), (.fad 3 (.tmp 1)), none⟩, ⟨(some 13), (.ld1 (.tmp 12)), none⟩, ⟨(some 14), (.pcall 58 [(.tmp 9), (.tmp 11), (.tmp 13)]), none⟩, ⟨(some 2), (.mv (.tmp 14)), none⟩]) .ret)))⟩ := by kernel_rfl

/-- (allotment/take.Block).Length -/
theorem tr22 : trF Tryz.prog pures Tryz.f22 = some
 ⟨11, [(.t 2)],
  (.seq (.reg [⟨(some 1), (.box 35 (.tmp 0)), none⟩, ⟨(some 2), (.mv (.const (.int .i64 0))), none⟩])
  (.seq (.seq
  (.reg [⟨(some 3), (.fad 0 (.tmp 1)), none⟩, ⟨(some 4), (.ld1 (.tmp 3)), none⟩])
  (.cond (.tmp 4)
  (.seq (.reg [⟨(some 5), (.fad 4 (.tmp 1)), none⟩, ⟨(some 6), (.ld1 (.tmp 5)), none⟩, ⟨(some 7), (.ar .mul (.tmp 6) (.const (.int .i64 64))), none⟩, ⟨(some 2), (.mv (.tmp 7)), none⟩]) .ret) .skip))
  (.seq (.reg [⟨(some 8), (.fad 3 (.tmp 1)), none⟩, ⟨(some 9), (.ld1 (.tmp 8)), none⟩, ⟨(some 10), (.pcall 59 [(.tmp 9)]), none⟩, ⟨(some 2), (.mv (.tmp 10)), none⟩]) .ret)))⟩ := by kernel_rfl

/-- allotment/take.NewReserver -/
theorem tr41 : trF Tryz.prog pures Tryz.f41 = some
 ⟨42, [(.t 8)],
  (.seq (.reg [⟨(some 4), (.box 23 (.tmp 0)), none⟩, ⟨(some 8), (.mv (.const (.pointer none))), none⟩])
  (.seq (.seq
  (.reg [⟨(some 14), (.mv (.tmp 2)), none⟩, ⟨(some 15), (.pcall 66 [(.tmp 14)]), none⟩, ⟨(some 13), (.mv (.tmp 15)), none⟩, ⟨(some 16), (.ext 0 (.tmp 13)), none⟩, ⟨(some 17), (.ext 1 (.tmp 13)), none⟩, ⟨(some 9), (.mv (.tmp 16)), none⟩, ⟨(some 10), (.mv (.tmp 17)), none⟩])
  (.seq (.reg [⟨(some 18), (.mv (.tmp 10)), none⟩])
  (.cond (.tmp 18)
  (.seq (.reg [⟨(some 19), (.mv (.tmp 9)), none⟩, ⟨(some 20), (.ldn 3 (.tmp 4)), none⟩, ⟨(some 21), (.mv (.tmp 1)), none⟩, ⟨(some 22), (.mv (.tmp 9)), none⟩, ⟨(some 23), (.mv (.tmp 3)), none⟩, ⟨(some 24), (.call 68 [(.tmp 20), (.tmp 21), (.tmp 22), (.tmp 23)]), none⟩, ⟨(some 25), (.bld #[(.int .i64 0), (.int .i64 0), (.pointer none), (.pointer none)] [(0, (1, (.tmp 19))), (2, (1, (.tmp 24)))]), none⟩, ⟨(some 26), (.box 105 (.tmp 25)), none⟩, ⟨(some 8), (.mv (.tmp 26)), none⟩]) .ret) .skip)))
  (.seq (.seq
  (.reg [⟨(some 28), (.mv (.tmp 2)), none⟩, ⟨(some 29), (.pcall 67 [(.tmp 28)]), none⟩, ⟨(some 27), (.mv (.tmp 29)), none⟩, ⟨(some 30), (.ext 0 (.tmp 27)), none⟩, ⟨(some 31), (.ext 1 (.tmp 27)), none⟩, ⟨(some 11), (.mv (.tmp 30)), none⟩, ⟨(some 12), (.mv (.tmp 31)), none⟩])
  (.seq (.reg [⟨(some 32), (.mv (.tmp 12)), none⟩])
  (.cond (.tmp 32)
  (.seq (.reg [⟨(some 33), (.mv (.tmp 11)), none⟩, ⟨(some 34), (.ldn 3 (.tmp 4)), none⟩, ⟨(some 35), (.mv (.tmp 1)), none⟩, ⟨(some 36), (.mv (.tmp 11)), none⟩, ⟨(some 37), (.call 69 [(.tmp 34), (.tmp 35), (.tmp 36)]), none⟩, ⟨(some 38), (.bld #[(.int .i64 0), (.int .i64 0), (.pointer none), (.pointer none)] [(1, (1, (.tmp 33))), (3, (1, (.tmp 37)))]), none⟩, ⟨(some 39), (.box 105 (.tmp 38)), none⟩, ⟨(some 8), (.mv (.tmp 39)), none⟩]) .ret) .skip)))
  (.seq (.reg [⟨(some 40), (.bld #[(.int .i64 0), (.int .i64 0), (.pointer none), (.pointer none)] []), none⟩, ⟨(some 41), (.box 105 (.tmp 40)), none⟩, ⟨(some 8), (.mv (.tmp 41)), none⟩]) .ret))))⟩ := by kernel_rfl

/-- (*allotment/take.Reserver).Done -/
theorem tr44 : trF Tryz.prog pures Tryz.f44 = some
 ⟨28, [(.t 2)],
  (.seq (.reg [⟨(some 2), (.mv (.const (.bool false))), none⟩])
  (.seq (.block 0
  (.seq (.reg [⟨(some 4), (.mv (.tmp 0)), none⟩, ⟨(some 5), (.pnil false (.tmp 4)), none⟩, ⟨(some 3), (.mv (.tmp 5)), none⟩])
  (.cond (.tmp 3)
  (.seq (.reg [⟨(some 2), (.mv (.const (.bool false))), none⟩]) .ret)
  (.seq (.reg [⟨(some 7), (.mv (.tmp 0)), none⟩, ⟨(some 8), (.nilck (.tmp 7)), none⟩, ⟨(some 9), (.fad 2 (.tmp 8)), none⟩, ⟨(some 10), (.ld1 (.tmp 9)), none⟩, ⟨(some 11), (.pnil true (.tmp 10)), none⟩, ⟨(some 6), (.mv (.tmp 11)), none⟩])
  (.cond (.tmp 6)
  (.seq (.reg [⟨(some 12), (.mv (.tmp 0)), none⟩, ⟨(some 13), (.nilck (.tmp 12)), none⟩, ⟨(some 14), (.fad 2 (.tmp 13)), none⟩, ⟨(some 15), (.ld1 (.tmp 14)), none⟩, ⟨(some 16), (.call 74 [(.tmp 15)]), none⟩, ⟨(some 2), (.mv (.tmp 16)), none⟩]) .ret)
  (.seq (.reg [⟨(some 18), (.mv (.tmp 0)), none⟩, ⟨(some 19), (.nilck (.tmp 18)), none⟩, ⟨(some 20), (.fad 3 (.tmp 19)), none⟩, ⟨(some 21), (.ld1 (.tmp 20)), none⟩, ⟨(some 22), (.pnil true (.tmp 21)), none⟩, ⟨(some 17), (.mv (.tmp 22)), none⟩])
  (.cond (.tmp 17)
  (.seq (.reg [⟨(some 23), (.mv (.tmp 0)), none⟩, ⟨(some 24), (.nilck (.tmp 23)), none⟩, ⟨(some 25), (.fad 3 (.tmp 24)), none⟩, ⟨(some 26), (.ld1 (.tmp 25)), none⟩, ⟨(some 27), (.call 75 [(.tmp 26)]), none⟩, ⟨(some 2), (.mv (.tmp 27)), none⟩]) .ret) .skip)))))))
  (.seq (.reg [⟨(some 2), (.mv (.const (.bool true))), none⟩]) .ret)))⟩ := by kernel_rfl

/-- (*allotment/take.Reserver).Step -/
theorem tr45 : trF Tryz.prog pures Tryz.f45 = some
 ⟨18, [],
  (.seq (.reg [⟨(some 4), (.mv (.tmp 0)), none⟩, ⟨(some 5), (.pnil true (.tmp 4)), none⟩])
  (.cond (.tmp 5)
  (.seq (.reg [⟨(some 6), (.mv (.tmp 0)), none⟩, ⟨(some 7), (.nilck (.tmp 6)), none⟩, ⟨(some 8), (.fad 2 (.tmp 7)), none⟩, ⟨(some 9), (.ld1 (.tmp 8)), none⟩, ⟨(some 10), (.mv (.tmp 1)), none⟩, ⟨(some 11), (.call 76 [(.tmp 9), (.tmp 10)]), none⟩])
  (.reg [⟨(some 12), (.mv (.tmp 0)), none⟩, ⟨(some 13), (.nilck (.tmp 12)), none⟩, ⟨(some 14), (.fad 3 (.tmp 13)), none⟩, ⟨(some 15), (.ld1 (.tmp 14)), none⟩, ⟨(some 16), (.mv (.tmp 1)), none⟩, ⟨(some 17), (.call 77 [(.tmp 15), (.tmp 16)]), none⟩])) .skip))⟩ := by kernel_rfl

/-- (*allotment/take.Undoer).Step -/
theorem tr48 : trF Tryz.prog pures Tryz.f48 = some
 ⟨111, [],
  (.block 0
  (.seq (.reg [⟨(some 34), (.mv (.tmp 0)), none⟩, ⟨(some 35), (.pnil false (.tmp 34)), none⟩, ⟨(some 36), (.mv (.tmp 35)), none⟩, ⟨(some 37), (.mv (.tmp 0)), (some (36, false))⟩, ⟨(some 38), (.nilck (.tmp 37)), (some (36, false))⟩, ⟨(some 39), (.fad 10 (.tmp 38)), (some (36, false))⟩, ⟨(some 40), (.ld1 (.tmp 39)), (some (36, false))⟩, ⟨(some 41), (.pick (.tmp 36) (.const (.bool true)) (.tmp 40)), none⟩, ⟨(some 33), (.mv (.tmp 41)), none⟩])
  (.cond (.tmp 33) .skip
  (.seq (.reg [⟨(some 43), (.mv (.tmp 0)), none⟩, ⟨(some 44), (.nilck (.tmp 43)), none⟩, ⟨(some 45), (.fad 4 (.tmp 44)), none⟩, ⟨(some 46), (.fad 0 (.tmp 45)), none⟩, ⟨(some 47), (.ld1 (.tmp 46)), none⟩, ⟨(some 48), (.nt (.tmp 47)), none⟩, ⟨(some 42), (.mv (.tmp 48)), none⟩])
  (.cond (.tmp 42)
  (.seq (.draw (.take ⟨(some 49), (.mv (.tmp 1)), none⟩ (.take ⟨(some 50), (.mv (.tmp 0)), none⟩ (.take ⟨(some 51), (.nilck (.tmp 50)), none⟩ (.take ⟨(some 52), (.fad 3 (.tmp 51)), none⟩ (.take ⟨(some 53), (.ld1 (.tmp 52)), none⟩ (.take ⟨(some 54), (.mv (.tmp 0)), none⟩ (.take ⟨(some 55), (.nilck (.tmp 54)), none⟩ (.take ⟨(some 56), (.fad 0 (.tmp 55)), none⟩ (.take ⟨(some 57), (.ldn 3 (.tmp 56)), none⟩ (.take ⟨(some 58), (.mv (.tmp 0)), none⟩ (.take ⟨(some 59), (.nilck (.tmp 58)), none⟩ (.take ⟨(some 60), (.fad 4 (.tmp 59)), none⟩ (.take ⟨(some 61), (.fad 1 (.tmp 60)), none⟩ (.take ⟨(some 62), (.ld1 (.tmp 61)), none⟩ (.take ⟨(some 63), (.mv (.tmp 0)), none⟩ (.take ⟨(some 64), (.nilck (.tmp 63)), none⟩ (.take ⟨(some 65), (.fad 4 (.tmp 64)), none⟩ (.take ⟨(some 66), (.fad 2 (.tmp 65)), none⟩ (.take ⟨(some 67), (.ld1 (.tmp 66)), none⟩ (.take ⟨(some 69), (.mv (.tmp 0)), none⟩ (.take ⟨(some 70), (.nilck (.tmp 69)), none⟩ (.take ⟨(some 71), (.fad 4 (.tmp 70)), none⟩ (.take ⟨(some 72), (.fad 3 (.tmp 71)), none⟩ (.take ⟨(some 73), (.ld1 (.tmp 72)), none⟩ (.take ⟨(some 74), (.bld #[(.int .i64 0), (.int .i64 0)] [(0, (1, (.const (.int .i64 1)))), (1, (1, (.tmp 73)))]), none⟩ (.alt false ⟨(some 68), (.pcall 83 [(.tmp 57), (.tmp 62), (.tmp 67)]), none⟩ (.alt false ⟨(some 75), (.pcall 84 [(.tmp 74)]), none⟩ (.alt true ⟨(some 76), (.call 82 [(.tmp 49), (.tmp 53), (.tmp 68), (.tmp 75)]), none⟩ .done .stop) .stop) .stop)))))))))))))))))))))))))))
  (.reg [⟨(some 77), (.mv (.tmp 0)), none⟩, ⟨(some 78), (.nilck (.tmp 77)), none⟩, ⟨(some 79), (.fad 10 (.tmp 78)), none⟩, ⟨none, (.st1 (.tmp 79) (.const (.bool true))), none⟩]))
  (.seq (.reg [⟨(some 81), (.mv (.tmp 0)), none⟩, ⟨(some 82), (.nilck (.tmp 81)), none⟩, ⟨(some 83), (.fad 9 (.tmp 82)), none⟩, ⟨(some 84), (.ld1 (.tmp 83)), none⟩, ⟨(some 85), (.mv (.tmp 0)), none⟩, ⟨(some 86), (.nilck (.tmp 85)), none⟩, ⟨(some 87), (.fad 4 (.tmp 86)), none⟩, ⟨(some 88), (.fad 4 (.tmp 87)), none⟩, ⟨(some 89), (.ld1 (.tmp 88)), none⟩, ⟨(some 90), (.ar .sub (.tmp 89) (.const (.int .i64 1))), none⟩, ⟨(some 91), (.cmp .eql (.tmp 84) (.tmp 90)), none⟩, ⟨(some 80), (.mv (.tmp 91)), none⟩])
  (.cond (.tmp 80)
  (.seq (.draw (.take ⟨(some 92), (.mv (.tmp 1)), none⟩ (.take ⟨(some 93), (.mv (.tmp 0)), none⟩ (.take ⟨(some 94), (.nilck (.tmp 93)), none⟩ (.take ⟨(some 95), (.fad 3 (.tmp 94)), none⟩ (.take ⟨(some 96), (.ld1 (.tmp 95)), none⟩ (.take ⟨(some 97), (.mv (.tmp 0)), none⟩ (.take ⟨(some 98), (.nilck (.tmp 97)), none⟩ (.take ⟨(some 99), (.fad 0 (.tmp 98)), none⟩ (.take ⟨(some 100), (.ldn 3 (.tmp 99)), none⟩ (.take ⟨(some 101), (.mv (.tmp 0)), none⟩ (.take ⟨(some 102), (.nilck (.tmp 101)), none⟩ (.take ⟨(some 103), (.fad 4 (.tmp 102)), none⟩ (.take ⟨(some 104), (.fad 1 (.tmp 103)), none⟩ (.take ⟨(some 105), (.ld1 (.tmp 104)), none⟩ (.alt false ⟨(some 106), (.pcall 86 [(.tmp 100), (.tmp 105)]), none⟩ (.alt true ⟨(some 107), (.call 82 [(.tmp 92), (.tmp 96), (.tmp 106), (.const (.int .u64 0))]), none⟩ .done .stop) .stop))))))))))))))))
  (.reg [⟨(some 108), (.mv (.tmp 0)), none⟩, ⟨(some 109), (.nilck (.tmp 108)), none⟩, ⟨(some 110), (.fad 10 (.tmp 109)), none⟩, ⟨none, (.st1 (.tmp 110) (.const (.bool true))), none⟩]))
  (.seq (.draw (.take ⟨(some 4), (.mv (.tmp 1)), none⟩ (.take ⟨(some 5), (.mv (.tmp 0)), none⟩ (.take ⟨(some 6), (.nilck (.tmp 5)), none⟩ (.take ⟨(some 7), (.fad 3 (.tmp 6)), none⟩ (.take ⟨(some 8), (.ld1 (.tmp 7)), none⟩ (.take ⟨(some 9), (.mv (.tmp 0)), none⟩ (.take ⟨(some 10), (.nilck (.tmp 9)), none⟩ (.take ⟨(some 11), (.fad 0 (.tmp 10)), none⟩ (.take ⟨(some 12), (.ldn 3 (.tmp 11)), none⟩ (.take ⟨(some 13), (.mv (.tmp 0)), none⟩ (.take ⟨(some 14), (.nilck (.tmp 13)), none⟩ (.take ⟨(some 15), (.fad 4 (.tmp 14)), none⟩ (.take ⟨(some 16), (.fad 1 (.tmp 15)), none⟩ (.take ⟨(some 17), (.ld1 (.tmp 16)), none⟩ (.take ⟨(some 18), (.mv (.tmp 0)), none⟩ (.take ⟨(some 19), (.nilck (.tmp 18)), none⟩ (.take ⟨(some 20), (.fad 9 (.tmp 19)), none⟩ (.take ⟨(some 21), (.ld1 (.tmp 20)), none⟩ (.take ⟨(some 22), (.ar .add (.tmp 17) (.tmp 21)), none⟩ (.take ⟨(some 23), (.ar .add (.tmp 22) (.const (.int .i64 1))), none⟩ (.alt false ⟨(some 24), (.pcall 86 [(.tmp 12), (.tmp 23)]), none⟩ (.alt true ⟨(some 25), (.call 82 [(.tmp 4), (.tmp 8), (.tmp 24), (.const (.int .u64 0))]), none⟩ .done .stop) .stop))))))))))))))))))))))
  (.reg [⟨(some 26), (.mv (.tmp 0)), none⟩, ⟨(some 27), (.nilck (.tmp 26)), none⟩, ⟨(some 28), (.fad 9 (.tmp 27)), none⟩, ⟨(some 29), (.ld1 (.tmp 28)), none⟩, ⟨(some 30), (.ar .add (.tmp 29) (.const (.int .i64 1))), none⟩, ⟨(some 31), (.nilck (.tmp 26)), none⟩, ⟨(some 32), (.fad 9 (.tmp 31)), none⟩, ⟨none, (.st1 (.tmp 32) (.tmp 30)), none⟩])))))))))⟩ := by kernel_rfl

/-- (*allotment/take.Committer).Step -/
theorem tr49 : trF Tryz.prog pures Tryz.f49 = some
 ⟨71, [],
  (.seq (.seq
  (.reg [⟨(some 4), (.mv (.tmp 0)), none⟩, ⟨(some 5), (.pnil false (.tmp 4)), none⟩, ⟨(some 6), (.mv (.tmp 5)), none⟩, ⟨(some 7), (.mv (.tmp 0)), (some (6, false))⟩, ⟨(some 8), (.nilck (.tmp 7)), (some (6, false))⟩, ⟨(some 9), (.fad 9 (.tmp 8)), (some (6, false))⟩, ⟨(some 10), (.ld1 (.tmp 9)), (some (6, false))⟩, ⟨(some 11), (.pick (.tmp 6) (.const (.bool true)) (.tmp 10)), none⟩])
  (.cond (.tmp 11) .ret .skip))
  (.seq (.seq
  (.reg [⟨(some 12), (.mv (.tmp 0)), none⟩, ⟨(some 13), (.nilck (.tmp 12)), none⟩, ⟨(some 14), (.fad 4 (.tmp 13)), none⟩, ⟨(some 15), (.fad 0 (.tmp 14)), none⟩, ⟨(some 16), (.ld1 (.tmp 15)), none⟩])
  (.cond (.tmp 16)
  (.draw (.take ⟨(some 17), (.mv (.tmp 1)), none⟩ (.take ⟨(some 18), (.mv (.tmp 0)), none⟩ (.take ⟨(some 19), (.nilck (.tmp 18)), none⟩ (.take ⟨(some 20), (.fad 3 (.tmp 19)), none⟩ (.take ⟨(some 21), (.ld1 (.tmp 20)), none⟩ (.take ⟨(some 22), (.mv (.tmp 0)), none⟩ (.take ⟨(some 23), (.nilck (.tmp 22)), none⟩ (.take ⟨(some 24), (.fad 0 (.tmp 23)), none⟩ (.take ⟨(some 25), (.ldn 3 (.tmp 24)), none⟩ (.take ⟨(some 26), (.mv (.tmp 0)), none⟩ (.take ⟨(some 27), (.nilck (.tmp 26)), none⟩ (.take ⟨(some 28), (.fad 4 (.tmp 27)), none⟩ (.take ⟨(some 29), (.fad 1 (.tmp 28)), none⟩ (.take ⟨(some 30), (.ld1 (.tmp 29)), none⟩ (.take ⟨(some 32), (.mv (.tmp 0)), none⟩ (.take ⟨(some 33), (.nilck (.tmp 32)), none⟩ (.take ⟨(some 34), (.fad 4 (.tmp 33)), none⟩ (.take ⟨(some 35), (.fad 4 (.tmp 34)), none⟩ (.take ⟨(some 36), (.ld1 (.tmp 35)), none⟩ (.take ⟨(some 37), (.bld #[(.int .i64 0), (.int .i64 0), (.int .i64 0)] [(0, (1, (.const (.int .i64 3)))), (1, (1, (.tmp 36)))]), none⟩ (.alt false ⟨(some 31), (.pcall 86 [(.tmp 25), (.tmp 30)]), none⟩ (.alt false ⟨(some 38), (.pcall 87 [(.tmp 37)]), none⟩ (.alt true ⟨(some 39), (.call 82 [(.tmp 17), (.tmp 21), (.tmp 31), (.tmp 38)]), none⟩ .done .stop) .stop) .stop))))))))))))))))))))))
  (.draw (.take ⟨(some 40), (.mv (.tmp 1)), none⟩ (.take ⟨(some 41), (.mv (.tmp 0)), none⟩ (.take ⟨(some 42), (.nilck (.tmp 41)), none⟩ (.take ⟨(some 43), (.fad 3 (.tmp 42)), none⟩ (.take ⟨(some 44), (.ld1 (.tmp 43)), none⟩ (.take ⟨(some 45), (.mv (.tmp 0)), none⟩ (.take ⟨(some 46), (.nilck (.tmp 45)), none⟩ (.take ⟨(some 47), (.fad 0 (.tmp 46)), none⟩ (.take ⟨(some 48), (.ldn 3 (.tmp 47)), none⟩ (.take ⟨(some 49), (.mv (.tmp 0)), none⟩ (.take ⟨(some 50), (.nilck (.tmp 49)), none⟩ (.take ⟨(some 51), (.fad 4 (.tmp 50)), none⟩ (.take ⟨(some 52), (.fad 1 (.tmp 51)), none⟩ (.take ⟨(some 53), (.ld1 (.tmp 52)), none⟩ (.take ⟨(some 54), (.mv (.tmp 0)), none⟩ (.take ⟨(some 55), (.nilck (.tmp 54)), none⟩ (.take ⟨(some 56), (.fad 4 (.tmp 55)), none⟩ (.take ⟨(some 57), (.fad 2 (.tmp 56)), none⟩ (.take ⟨(some 58), (.ld1 (.tmp 57)), none⟩ (.take ⟨(some 60), (.mv (.tmp 0)), none⟩ (.take ⟨(some 61), (.nilck (.tmp 60)), none⟩ (.take ⟨(some 62), (.fad 4 (.tmp 61)), none⟩ (.take ⟨(some 63), (.fad 3 (.tmp 62)), none⟩ (.take ⟨(some 64), (.ld1 (.tmp 63)), none⟩ (.take ⟨(some 65), (.bld #[(.int .i64 0), (.int .i64 0)] [(0, (1, (.const (.int .i64 3)))), (1, (1, (.tmp 64)))]), none⟩ (.alt false ⟨(some 59), (.pcall 83 [(.tmp 48), (.tmp 53), (.tmp 58)]), none⟩ (.alt false ⟨(some 66), (.pcall 84 [(.tmp 65)]), none⟩ (.alt true ⟨(some 67), (.call 82 [(.tmp 40), (.tmp 44), (.tmp 59), (.tmp 66)]), none⟩ .done .stop) .stop) .stop)))))))))))))))))))))))))))))
  (.reg [⟨(some 68), (.mv (.tmp 0)), none⟩, ⟨(some 69), (.nilck (.tmp 68)), none⟩, ⟨(some 70), (.fad 9 (.tmp 69)), none⟩, ⟨none, (.st1 (.tmp 70) (.const (.bool true))), none⟩])))⟩ := by kernel_rfl

/-- (*allotment/take.Reserver).Found -/
theorem tr50 : trF Tryz.prog pures Tryz.f50 = some
 ⟨45, [(.cn 2 5), (.t 3)],
  (.seq (.reg [⟨(some 2), (.alc 35 (.agg #[(.bool false), (.int .i64 0), (.int .i64 0), (.int .i64 0), (.int .i64 0)])), none⟩, ⟨(some 3), (.mv (.const (.bool false))), none⟩])
  (.seq (.seq
  (.reg [⟨(some 9), (.mv (.tmp 0)), none⟩, ⟨(some 10), (.pnil false (.tmp 9)), none⟩])
  (.cond (.tmp 10)
  (.seq (.reg [⟨(some 11), (.bld #[(.bool false), (.int .i64 0), (.int .i64 0), (.int .i64 0), (.int .i64 0)] []), none⟩, ⟨none, (.stn 5 (.tmp 2) (.tmp 11)), none⟩, ⟨(some 3), (.mv (.const (.bool false))), none⟩]) .ret) .skip))
  (.seq (.seq
  (.reg [⟨(some 13), (.mv (.tmp 0)), none⟩, ⟨(some 14), (.nilck (.tmp 13)), none⟩, ⟨(some 15), (.fad 2 (.tmp 14)), none⟩, ⟨(some 16), (.ld1 (.tmp 15)), none⟩, ⟨(some 17), (.call 88 [(.tmp 16)]), none⟩, ⟨(some 12), (.mv (.tmp 17)), none⟩, ⟨(some 18), (.ext 0 (.tmp 12)), none⟩, ⟨(some 19), (.ext 1 (.tmp 12)), none⟩, ⟨(some 20), (.ext 2 (.tmp 12)), none⟩, ⟨(some 4), (.mv (.tmp 18)), none⟩, ⟨(some 5), (.mv (.tmp 19)), none⟩, ⟨(some 6), (.mv (.tmp 20)), none⟩])
  (.seq (.reg [⟨(some 21), (.mv (.tmp 6)), none⟩])
  (.cond (.tmp 21)
  (.seq (.reg [⟨(some 22), (.mv (.tmp 4)), none⟩, ⟨(some 23), (.mv (.tmp 5)), none⟩, ⟨(some 24), (.mv (.tmp 0)), none⟩, ⟨(some 25), (.nilck (.tmp 24)), none⟩, ⟨(some 26), (.fad 0 (.tmp 25)), none⟩, ⟨(some 27), (.ld1 (.tmp 26)), none⟩, ⟨(some 28), (.bld #[(.bool false), (.int .i64 0), (.int .i64 0), (.int .i64 0), (.int .i64 0)] [(1, (1, (.tmp 22))), (2, (1, (.tmp 23))), (3, (1, (.tmp 27)))]), none⟩, ⟨none, (.stn 5 (.tmp 2) (.tmp 28)), none⟩, ⟨(some 3), (.mv (.const (.bool true))), none⟩]) .ret) .skip)))
  (.seq (.seq
  (.reg [⟨(some 30), (.mv (.tmp 0)), none⟩, ⟨(some 31), (.nilck (.tmp 30)), none⟩, ⟨(some 32), (.fad 3 (.tmp 31)), none⟩, ⟨(some 33), (.ld1 (.tmp 32)), none⟩, ⟨(some 34), (.call 89 [(.tmp 33)]), none⟩, ⟨(some 29), (.mv (.tmp 34)), none⟩, ⟨(some 35), (.ext 0 (.tmp 29)), none⟩, ⟨(some 36), (.ext 1 (.tmp 29)), none⟩, ⟨(some 7), (.mv (.tmp 35)), none⟩, ⟨(some 8), (.mv (.tmp 36)), none⟩])
  (.seq (.reg [⟨(some 37), (.mv (.tmp 8)), none⟩])
  (.cond (.tmp 37)
  (.seq (.reg [⟨(some 38), (.mv (.tmp 7)), none⟩, ⟨(some 39), (.mv (.tmp 0)), none⟩, ⟨(some 40), (.nilck (.tmp 39)), none⟩, ⟨(some 41), (.fad 1 (.tmp 40)), none⟩, ⟨(some 42), (.ld1 (.tmp 41)), none⟩, ⟨(some 43), (.bld #[(.bool false), (.int .i64 0), (.int .i64 0), (.int .i64 0), (.int .i64 0)] [(0, (1, (.const (.bool true)))), (1, (1, (.tmp 38))), (4, (1, (.tmp 42)))]), none⟩, ⟨none, (.stn 5 (.tmp 2) (.tmp 43)), none⟩, ⟨(some 3), (.mv (.const (.bool true))), none⟩]) .ret) .skip)))
  (.seq (.reg [⟨(some 44), (.bld #[(.bool false), (.int .i64 0), (.int .i64 0), (.int .i64 0), (.int .i64 0)] []), none⟩, ⟨none, (.stn 5 (.tmp 2) (.tmp 44)), none⟩, ⟨(some 3), (.mv (.const (.bool false))), none⟩]) .ret)))))⟩ := by kernel_rfl

/-- (*allotment/take.Undoer).Done -/
theorem tr70 : trF Tryz.prog pures Tryz.f70 = some
 ⟨11, [(.t 2)],
  (.seq (.reg [⟨(some 2), (.mv (.const (.bool false))), none⟩])
  (.seq (.reg [⟨(some 3), (.mv (.tmp 0)), none⟩, ⟨(some 4), (.pnil true (.tmp 3)), none⟩, ⟨(some 5), (.mv (.tmp 4)), none⟩, ⟨(some 6), (.mv (.tmp 0)), (some (5, true))⟩, ⟨(some 7), (.nilck (.tmp 6)), (some (5, true))⟩, ⟨(some 8), (.fad 10 (.tmp 7)), (some (5, true))⟩, ⟨(some 9), (.ld1 (.tmp 8)), (some (5, true))⟩, ⟨(some 10), (.pick (.tmp 5) (.tmp 9) (.const (.bool false))), none⟩, ⟨(some 2), (.mv (.tmp 10)), none⟩]) .ret))⟩ := by kernel_rfl

/-- (*allotment/take.Committer).Done -/
theorem tr71 : trF Tryz.prog pures Tryz.f71 = some
 ⟨11, [(.t 2)],
  (.seq (.reg [⟨(some 2), (.mv (.const (.bool false))), none⟩])
  (.seq (.reg [⟨(some 3), (.mv (.tmp 0)), none⟩, ⟨(some 4), (.pnil true (.tmp 3)), none⟩, ⟨(some 5), (.mv (.tmp 4)), none⟩, ⟨(some 6), (.mv (.tmp 0)), (some (5, true))⟩, ⟨(some 7), (.nilck (.tmp 6)), (some (5, true))⟩, ⟨(some 8), (.fad 9 (.tmp 7)), (some (5, true))⟩, ⟨(some 9), (.ld1 (.tmp 8)), (some (5, true))⟩, ⟨(some 10), (.pick (.tmp 5) (.tmp 9) (.const (.bool false))), none⟩, ⟨(some 2), (.mv (.tmp 10)), none⟩]) .ret))⟩ := by kernel_rfl

/-- allotment/take.NewCommitter -/
theorem tr72 : trF Tryz.prog pures Tryz.f72 = some
 ⟨17, [(.t 6)],
  (.seq (.reg [⟨(some 3), (.box 23 (.tmp 0)), none⟩, ⟨(some 5), (.box 35 (.tmp 2)), none⟩, ⟨(some 6), (.mv (.const (.pointer none))), none⟩])
  (.seq (.draw (.take ⟨(some 7), (.ldn 3 (.tmp 3)), none⟩ (.take ⟨(some 8), (.mv (.tmp 1)), none⟩ (.take ⟨(some 9), (.ldn 5 (.tmp 5)), none⟩ (.take ⟨(some 10), (.ldn 5 (.tmp 5)), none⟩ (.take ⟨(some 11), (.ldn 3 (.tmp 3)), none⟩ (.take ⟨(some 12), (.mv (.tmp 1)), none⟩ (.alt false ⟨(some 13), (.call 94 [(.tmp 10), (.tmp 11), (.tmp 12)]), none⟩ (.take ⟨(some 14), (.nt (.tmp 13)), none⟩ (.take ⟨(some 15), (.bld #[(.int .i64 0), (.int .i64 0), (.int .i64 0), (.int .i64 0), (.bool false), (.int .i64 0), (.int .i64 0), (.int .i64 0), (.int .i64 0), (.bool false)] [(0, (3, (.tmp 7))), (3, (1, (.tmp 8))), (4, (5, (.tmp 9))), (9, (1, (.tmp 14)))]), none⟩ (.alt false ⟨(some 16), (.box 119 (.tmp 15)), none⟩ (.take ⟨(some 6), (.mv (.tmp 16)), none⟩ .done) .stop))) .stop)))))))) .ret))⟩ := by kernel_rfl

/-- allotment/take.NewUndoer -/
theorem tr73 : trF Tryz.prog pures Tryz.f73 = some
 ⟨17, [(.t 6)],
  (.seq (.reg [⟨(some 3), (.box 23 (.tmp 0)), none⟩, ⟨(some 5), (.box 35 (.tmp 2)), none⟩, ⟨(some 6), (.mv (.const (.pointer none))), none⟩])
  (.seq (.draw (.take ⟨(some 7), (.ldn 3 (.tmp 3)), none⟩ (.take ⟨(some 8), (.mv (.tmp 1)), none⟩ (.take ⟨(some 9), (.ldn 5 (.tmp 5)), none⟩ (.take ⟨(some 10), (.ldn 5 (.tmp 5)), none⟩ (.take ⟨(some 11), (.ldn 3 (.tmp 3)), none⟩ (.take ⟨(some 12), (.mv (.tmp 1)), none⟩ (.alt false ⟨(some 13), (.call 94 [(.tmp 10), (.tmp 11), (.tmp 12)]), none⟩ (.take ⟨(some 14), (.nt (.tmp 13)), none⟩ (.take ⟨(some 15), (.bld #[(.int .i64 0), (.int .i64 0), (.int .i64 0), (.int .i64 0), (.bool false), (.int .i64 0), (.int .i64 0), (.int .i64 0), (.int .i64 0), (.int .i64 0), (.bool false)] [(0, (3, (.tmp 7))), (3, (1, (.tmp 8))), (4, (5, (.tmp 9))), (10, (1, (.tmp 14)))]), none⟩ (.alt false ⟨(some 16), (.box 117 (.tmp 15)), none⟩ (.take ⟨(some 6), (.mv (.tmp 16)), none⟩ .done) .stop))) .stop)))))))) .ret))⟩ := by kernel_rfl

/-- (allotment/take.Block).fits -/
theorem tr94 : trF Tryz.prog pures Tryz.f94 = some
 ⟨49, [(.t 6)],
  (.seq (.reg [⟨(some 3), (.box 35 (.tmp 0)), none⟩, ⟨(some 4), (.box 23 (.tmp 1)), none⟩, ⟨(some 6), (.mv (.const (.bool false))), none⟩])
  (.seq (.seq
  (.reg [⟨(some 7), (.ldn 3 (.tmp 4)), none⟩, ⟨(some 8), (.mv (.tmp 2)), none⟩, ⟨(some 9), (.pcall 39 [(.tmp 7), (.tmp 8)]), none⟩, ⟨(some 10), (.cmp .lss (.tmp 9) (.const (.int .i64 0))), none⟩, ⟨(some 11), (.mv (.tmp 10)), none⟩, ⟨(some 12), (.ldn 3 (.tmp 4)), (some (11, false))⟩, ⟨(some 13), (.fad 1 (.tmp 3)), (some (11, false))⟩, ⟨(some 14), (.ld1 (.tmp 13)), (some (11, false))⟩, ⟨(some 15), (.pcall 86 [(.tmp 12), (.tmp 14)]), (some (11, false))⟩, ⟨(some 16), (.cmp .lss (.tmp 15) (.const (.int .i64 0))), (some (11, false))⟩, ⟨(some 17), (.pick (.tmp 11) (.const (.bool true)) (.tmp 16)), none⟩])
  (.cond (.tmp 17)
  (.seq (.reg [⟨(some 6), (.mv (.const (.bool false))), none⟩]) .ret) .skip))
  (.seq (.seq
  (.reg [⟨(some 18), (.fad 0 (.tmp 3)), none⟩, ⟨(some 19), (.ld1 (.tmp 18)), none⟩])
  (.cond (.tmp 19)
  (.seq (.reg [⟨(some 20), (.fad 4 (.tmp 3)), none⟩, ⟨(some 21), (.ld1 (.tmp 20)), none⟩, ⟨(some 22), (.cmp .geq (.tmp 21) (.const (.int .i64 1))), none⟩, ⟨(some 23), (.mv (.tmp 22)), none⟩, ⟨(some 24), (.fad 4 (.tmp 3)), (some (23, true))⟩, ⟨(some 25), (.ld1 (.tmp 24)), (some (23, true))⟩, ⟨(some 26), (.cmp .leq (.tmp 25) (.const (.int .i64 8))), (some (23, true))⟩, ⟨(some 27), (.pick (.tmp 23) (.tmp 26) (.const (.bool false))), none⟩, ⟨(some 28), (.mv (.tmp 27)), none⟩, ⟨(some 29), (.fad 4 (.tmp 3)), (some (28, true))⟩, ⟨(some 30), (.ld1 (.tmp 29)), (some (28, true))⟩, ⟨(some 31), (.fad 0 (.tmp 4)), (some (28, true))⟩, ⟨(some 32), (.ld1 (.tmp 31)), (some (28, true))⟩, ⟨(some 33), (.fad 1 (.tmp 3)), (some (28, true))⟩, ⟨(some 34), (.ld1 (.tmp 33)), (some (28, true))⟩, ⟨(some 35), (.ar .sub (.tmp 32) (.tmp 34)), (some (28, true))⟩, ⟨(some 36), (.cmp .leq (.tmp 30) (.tmp 35)), (some (28, true))⟩, ⟨(some 37), (.pick (.tmp 28) (.tmp 36) (.const (.bool false))), none⟩, ⟨(some 6), (.mv (.tmp 37)), none⟩]) .ret) .skip))
  (.seq (.reg [⟨(some 38), (.fad 2 (.tmp 3)), none⟩, ⟨(some 39), (.ld1 (.tmp 38)), none⟩, ⟨(some 40), (.cmp .geq (.tmp 39) (.const (.int .i64 0))), none⟩, ⟨(some 41), (.mv (.tmp 40)), none⟩, ⟨(some 42), (.fad 2 (.tmp 3)), (some (41, true))⟩, ⟨(some 43), (.ld1 (.tmp 42)), (some (41, true))⟩, ⟨(some 44), (.fad 3 (.tmp 3)), (some (41, true))⟩, ⟨(some 45), (.ld1 (.tmp 44)), (some (41, true))⟩, ⟨(some 46), (.pcall 91 [(.tmp 45)]), (some (41, true))⟩, ⟨(some 47), (.cmp .lss (.tmp 43) (.tmp 46)), (some (41, true))⟩, ⟨(some 48), (.pick (.tmp 41) (.tmp 47) (.const (.bool false))), none⟩, ⟨(some 6), (.mv (.tmp 48)), none⟩]) .ret))))⟩ := by kernel_rfl

end Go.Proofs.YtapkiooeemamjaaGreat
