/-
 The compact code of functions of this seat, as translated from the model: each translation holds by reckoning. Conditions: none.
-/
import Derived.Test.YtapkiooeemamjaaGreatCode
set_option maxRecDepth 100000
namespace Go.Proofs.YtapkiooeemamjaaGreat
open Go Go.Ev

/-- allotment/renew.New -/
theorem tr10 : trF Tryz.prog pures Tryz.f10 = some
 ⟨66, [(.t 10)],
  (.seq (.reg [⟨(some 5), (.box 23 (.tmp 0)), none⟩, ⟨(some 10), (.mv (.const (.pointer none))), none⟩])
  (.seq (.reg [⟨(some 18), (.ldn 3 (.tmp 5)), none⟩, ⟨(some 19), (.mv (.tmp 2)), none⟩, ⟨(some 20), (.pcall 37 [(.tmp 18), (.tmp 19)]), none⟩, ⟨(some 17), (.mv (.tmp 20)), none⟩, ⟨(some 21), (.ext 0 (.tmp 17)), none⟩, ⟨(some 22), (.ext 1 (.tmp 17)), none⟩, ⟨(some 23), (.ext 2 (.tmp 17)), none⟩, ⟨(some 11), (.mv (.tmp 21)), none⟩, ⟨(some 12), (.mv (.tmp 22)), none⟩, ⟨(some 13), (.mv (.tmp 23)), none⟩])
  (.seq (.reg [⟨(some 25), (.mv (.tmp 3)), none⟩, ⟨(some 26), (.pcall 38 [(.tmp 25)]), none⟩, ⟨(some 24), (.mv (.tmp 26)), none⟩, ⟨(some 27), (.ext 0 (.tmp 24)), none⟩, ⟨(some 28), (.ext 1 (.tmp 24)), none⟩, ⟨(some 14), (.mv (.tmp 27)), none⟩, ⟨(some 15), (.mv (.tmp 28)), none⟩])
  (.seq (.reg [⟨(some 29), (.ldn 3 (.tmp 5)), none⟩, ⟨(some 30), (.mv (.tmp 1)), none⟩, ⟨(some 31), (.bld #[(.int .i64 0), (.int .i64 0), (.int .i64 0), (.int .i64 0), (.pointer none), (.pointer none), (.pointer none), (.pointer none), (.int .i64 0), (.bool false)] [(0, (3, (.tmp 29))), (3, (1, (.tmp 30)))]), none⟩, ⟨(some 32), (.box 85 (.tmp 31)), none⟩, ⟨(some 16), (.mv (.tmp 32)), none⟩])
  (.seq (.seq
  (.reg [⟨(some 33), (.mv (.tmp 13)), none⟩, ⟨(some 34), (.nt (.tmp 33)), none⟩, ⟨(some 35), (.mv (.tmp 34)), none⟩, ⟨(some 36), (.mv (.tmp 15)), (some (35, false))⟩, ⟨(some 37), (.nt (.tmp 36)), (some (35, false))⟩, ⟨(some 38), (.pick (.tmp 35) (.const (.bool true)) (.tmp 37)), none⟩, ⟨(some 39), (.mv (.tmp 38)), none⟩, ⟨(some 40), (.ldn 3 (.tmp 5)), (some (39, false))⟩, ⟨(some 41), (.mv (.tmp 1)), (some (39, false))⟩, ⟨(some 42), (.pcall 39 [(.tmp 40), (.tmp 41)]), (some (39, false))⟩, ⟨(some 43), (.cmp .lss (.tmp 42) (.const (.int .i64 0))), (some (39, false))⟩, ⟨(some 44), (.pick (.tmp 39) (.const (.bool true)) (.tmp 43)), none⟩])
  (.cond (.tmp 44)
  (.seq (.reg [⟨(some 45), (.mv (.tmp 16)), none⟩, ⟨(some 46), (.call 40 [(.tmp 45), (.const (.int .i64 1))]), none⟩])
  (.seq (.reg [⟨(some 47), (.mv (.tmp 16)), none⟩, ⟨(some 10), (.mv (.tmp 47)), none⟩]) .ret)) .skip))
  (.seq (.draw (.take ⟨(some 48), (.mv (.tmp 16)), none⟩ (.take ⟨(some 49), (.mv (.tmp 16)), none⟩ (.take ⟨(some 50), (.ldn 3 (.tmp 5)), none⟩ (.take ⟨(some 51), (.mv (.tmp 1)), none⟩ (.take ⟨(some 52), (.mv (.tmp 3)), none⟩ (.take ⟨(some 53), (.mv (.tmp 4)), none⟩ (.take ⟨(some 55), (.ldn 3 (.tmp 5)), none⟩ (.take ⟨(some 56), (.mv (.tmp 1)), none⟩ (.take ⟨(some 57), (.mv (.tmp 2)), none⟩ (.alt false ⟨(some 54), (.call 41 [(.tmp 50), (.tmp 51), (.tmp 52), (.tmp 53)]), none⟩ (.alt false ⟨(some 58), (.call 42 [(.tmp 55), (.tmp 56), (.tmp 57)]), none⟩ (.take ⟨(some 59), (.nilck (.tmp 48)), none⟩ (.take ⟨(some 60), (.fad 4 (.tmp 59)), none⟩ (.alt false ⟨none, (.st1 (.tmp 60) (.tmp 54)), none⟩ (.take ⟨(some 61), (.nilck (.tmp 49)), none⟩ (.take ⟨(some 62), (.fad 5 (.tmp 61)), none⟩ (.alt true ⟨none, (.st1 (.tmp 62) (.tmp 58)), none⟩ .done .stop))) .stop))) .stop) .stop)))))))))))
  (.seq (.reg [⟨(some 63), (.mv (.tmp 16)), none⟩, ⟨(some 64), (.call 43 [(.tmp 63)]), none⟩])
  (.seq (.reg [⟨(some 65), (.mv (.tmp 16)), none⟩, ⟨(some 10), (.mv (.tmp 65)), none⟩]) .ret))))))))⟩ := by kernel_rfl

/-- (*allotment/renew.Renewer).Step -/
theorem tr11 : trF Tryz.prog pures Tryz.f11 = some
 ⟨58, [],
  (.seq (.seq
  (.reg [⟨(some 4), (.mv (.tmp 0)), none⟩, ⟨(some 5), (.pnil false (.tmp 4)), none⟩, ⟨(some 6), (.mv (.tmp 5)), none⟩, ⟨(some 7), (.mv (.tmp 0)), (some (6, false))⟩, ⟨(some 8), (.nilck (.tmp 7)), (some (6, false))⟩, ⟨(some 9), (.fad 9 (.tmp 8)), (some (6, false))⟩, ⟨(some 10), (.ld1 (.tmp 9)), (some (6, false))⟩, ⟨(some 11), (.pick (.tmp 6) (.const (.bool true)) (.tmp 10)), none⟩])
  (.cond (.tmp 11) .ret .skip))
  (.seq (.block 0
  (.seq (.reg [⟨(some 19), (.mv (.tmp 0)), none⟩, ⟨(some 20), (.nilck (.tmp 19)), none⟩, ⟨(some 21), (.fad 4 (.tmp 20)), none⟩, ⟨(some 22), (.ld1 (.tmp 21)), none⟩, ⟨(some 23), (.call 44 [(.tmp 22)]), none⟩, ⟨(some 24), (.nt (.tmp 23)), none⟩, ⟨(some 18), (.mv (.tmp 24)), none⟩])
  (.cond (.tmp 18)
  (.reg [⟨(some 25), (.mv (.tmp 0)), none⟩, ⟨(some 26), (.nilck (.tmp 25)), none⟩, ⟨(some 27), (.fad 4 (.tmp 26)), none⟩, ⟨(some 28), (.ld1 (.tmp 27)), none⟩, ⟨(some 29), (.mv (.tmp 1)), none⟩, ⟨(some 30), (.call 45 [(.tmp 28), (.tmp 29)]), none⟩])
  (.seq (.reg [⟨(some 32), (.mv (.tmp 0)), none⟩, ⟨(some 33), (.nilck (.tmp 32)), none⟩, ⟨(some 34), (.fad 5 (.tmp 33)), none⟩, ⟨(some 35), (.ld1 (.tmp 34)), none⟩, ⟨(some 36), (.call 46 [(.tmp 35)]), none⟩, ⟨(some 37), (.nt (.tmp 36)), none⟩, ⟨(some 31), (.mv (.tmp 37)), none⟩])
  (.cond (.tmp 31)
  (.reg [⟨(some 38), (.mv (.tmp 0)), none⟩, ⟨(some 39), (.nilck (.tmp 38)), none⟩, ⟨(some 40), (.fad 5 (.tmp 39)), none⟩, ⟨(some 41), (.ld1 (.tmp 40)), none⟩, ⟨(some 42), (.mv (.tmp 1)), none⟩, ⟨(some 43), (.call 47 [(.tmp 41), (.tmp 42)]), none⟩])
  (.seq (.reg [⟨(some 45), (.mv (.tmp 0)), none⟩, ⟨(some 46), (.nilck (.tmp 45)), none⟩, ⟨(some 47), (.fad 6 (.tmp 46)), none⟩, ⟨(some 48), (.ld1 (.tmp 47)), none⟩, ⟨(some 49), (.pnil true (.tmp 48)), none⟩, ⟨(some 44), (.mv (.tmp 49)), none⟩])
  (.cond (.tmp 44)
  (.reg [⟨(some 50), (.mv (.tmp 0)), none⟩, ⟨(some 51), (.nilck (.tmp 50)), none⟩, ⟨(some 52), (.fad 6 (.tmp 51)), none⟩, ⟨(some 53), (.ld1 (.tmp 52)), none⟩, ⟨(some 54), (.mv (.tmp 1)), none⟩, ⟨(some 55), (.call 48 [(.tmp 53), (.tmp 54)]), none⟩])
  (.reg [⟨(some 12), (.mv (.tmp 0)), none⟩, ⟨(some 13), (.nilck (.tmp 12)), none⟩, ⟨(some 14), (.fad 7 (.tmp 13)), none⟩, ⟨(some 15), (.ld1 (.tmp 14)), none⟩, ⟨(some 16), (.mv (.tmp 1)), none⟩, ⟨(some 17), (.call 49 [(.tmp 15), (.tmp 16)]), none⟩]))))))))
  (.reg [⟨(some 56), (.mv (.tmp 0)), none⟩, ⟨(some 57), (.call 43 [(.tmp 56)]), none⟩])))⟩ := by kernel_rfl

/-- (*allotment/renew.Renewer).Found -/
theorem tr12 : trF Tryz.prog pures Tryz.f12 = some
 ⟨28, [(.cn 2 5), (.t 3)],
  (.seq (.reg [⟨(some 2), (.alc 35 (.agg #[(.bool false), (.int .i64 0), (.int .i64 0), (.int .i64 0), (.int .i64 0)])), none⟩, ⟨(some 3), (.mv (.const (.bool false))), none⟩])
  (.seq (.seq
  (.reg [⟨(some 4), (.mv (.tmp 0)), none⟩, ⟨(some 5), (.pnil false (.tmp 4)), none⟩, ⟨(some 6), (.mv (.tmp 5)), none⟩, ⟨(some 7), (.mv (.tmp 0)), (some (6, false))⟩, ⟨(some 8), (.nilck (.tmp 7)), (some (6, false))⟩, ⟨(some 9), (.fad 9 (.tmp 8)), (some (6, false))⟩, ⟨(some 10), (.ld1 (.tmp 9)), (some (6, false))⟩, ⟨(some 11), (.nt (.tmp 10)), (some (6, false))⟩, ⟨(some 12), (.pick (.tmp 6) (.const (.bool true)) (.tmp 11)), none⟩, ⟨(some 13), (.mv (.tmp 12)), none⟩, ⟨(some 14), (.mv (.tmp 0)), (some (13, false))⟩, ⟨(some 15), (.nilck (.tmp 14)), (some (13, false))⟩, ⟨(some 16), (.fad 8 (.tmp 15)), (some (13, false))⟩, ⟨(some 17), (.ld1 (.tmp 16)), (some (13, false))⟩, ⟨(some 18), (.cmp .neq (.tmp 17) (.const (.int .i64 0))), (some (13, false))⟩, ⟨(some 19), (.pick (.tmp 13) (.const (.bool true)) (.tmp 18)), none⟩])
  (.cond (.tmp 19)
  (.seq (.reg [⟨(some 20), (.bld #[(.bool false), (.int .i64 0), (.int .i64 0), (.int .i64 0), (.int .i64 0)] []), none⟩, ⟨none, (.stn 5 (.tmp 2) (.tmp 20)), none⟩, ⟨(some 3), (.mv (.const (.bool false))), none⟩]) .ret) .skip))
  (.seq (.reg [⟨(some 21), (.mv (.tmp 0)), none⟩, ⟨(some 22), (.nilck (.tmp 21)), none⟩, ⟨(some 23), (.fad 4 (.tmp 22)), none⟩, ⟨(some 24), (.ld1 (.tmp 23)), none⟩, ⟨(some 25), (.call 50 [(.tmp 24)]), none⟩, ⟨(some 26), (.ext 0 (.tmp 25)), none⟩, ⟨(some 27), (.ext 1 (.tmp 25)), none⟩, ⟨none, (.stn 5 (.tmp 2) (.tmp 26)), none⟩, ⟨(some 3), (.mv (.tmp 27)), none⟩]) .ret)))⟩ := by kernel_rfl

/-- (*allotment/renew.Renewer).Done -/
theorem tr15 : trF Tryz.prog pures Tryz.f15 = some
 ⟨11, [(.t 2)],
  (.seq (.reg [⟨(some 2), (.mv (.const (.bool false))), none⟩])
  (.seq (.reg [⟨(some 3), (.mv (.tmp 0)), none⟩, ⟨(some 4), (.pnil true (.tmp 3)), none⟩, ⟨(some 5), (.mv (.tmp 4)), none⟩, ⟨(some 6), (.mv (.tmp 0)), (some (5, true))⟩, ⟨(some 7), (.nilck (.tmp 6)), (some (5, true))⟩, ⟨(some 8), (.fad 9 (.tmp 7)), (some (5, true))⟩, ⟨(some 9), (.ld1 (.tmp 8)), (some (5, true))⟩, ⟨(some 10), (.pick (.tmp 5) (.tmp 9) (.const (.bool false))), none⟩, ⟨(some 2), (.mv (.tmp 10)), none⟩]) .ret))⟩ := by kernel_rfl

/-- (*allotment/renew.Renewer).Err -/
theorem tr16 : trF Tryz.prog pures Tryz.f16 = some
 ⟨9, [(.t 2)],
  (.seq (.reg [⟨(some 2), (.mv (.const (.int .i64 0))), none⟩])
  (.seq (.seq
  (.reg [⟨(some 3), (.mv (.tmp 0)), none⟩, ⟨(some 4), (.pnil false (.tmp 3)), none⟩])
  (.cond (.tmp 4)
  (.seq (.reg [⟨(some 2), (.mv (.const (.int .i64 1))), none⟩]) .ret) .skip))
  (.seq (.reg [⟨(some 5), (.mv (.tmp 0)), none⟩, ⟨(some 6), (.nilck (.tmp 5)), none⟩, ⟨(some 7), (.fad 8 (.tmp 6)), none⟩, ⟨(some 8), (.ld1 (.tmp 7)), none⟩, ⟨(some 2), (.mv (.tmp 8)), none⟩]) .ret)))⟩ := by kernel_rfl

/-- (*allotment/renew.Renewer).Gave -/
theorem tr17 : trF Tryz.prog pures Tryz.f17 = some
 ⟨12, [(.t 2)],
  (.seq (.reg [⟨(some 2), (.mv (.const (.bool false))), none⟩])
  (.seq (.reg [⟨(some 3), (.mv (.tmp 0)), none⟩, ⟨(some 4), (.pnil true (.tmp 3)), none⟩, ⟨(some 5), (.mv (.tmp 4)), none⟩, ⟨(some 6), (.mv (.tmp 0)), (some (5, true))⟩, ⟨(some 7), (.nilck (.tmp 6)), (some (5, true))⟩, ⟨(some 8), (.fad 5 (.tmp 7)), (some (5, true))⟩, ⟨(some 9), (.ld1 (.tmp 8)), (some (5, true))⟩, ⟨(some 10), (.call 55 [(.tmp 9)]), (some (5, true))⟩, ⟨(some 11), (.pick (.tmp 5) (.tmp 10) (.const (.bool false))), none⟩, ⟨(some 2), (.mv (.tmp 11)), none⟩]) .ret))⟩ := by kernel_rfl

/-- (*allotment/renew.Renewer).end -/
theorem tr40 : trF Tryz.prog pures Tryz.f40 = some
 ⟨11, [],
  (.reg [⟨(some 4), (.mv (.tmp 0)), none⟩, ⟨(some 5), (.mv (.tmp 0)), none⟩, ⟨(some 6), (.mv (.tmp 1)), none⟩, ⟨(some 7), (.nilck (.tmp 4)), none⟩, ⟨(some 8), (.fad 8 (.tmp 7)), none⟩, ⟨none, (.st1 (.tmp 8) (.tmp 6)), none⟩, ⟨(some 9), (.nilck (.tmp 5)), none⟩, ⟨(some 10), (.fad 9 (.tmp 9)), none⟩, ⟨none, (.st1 (.tmp 10) (.const (.bool true))), none⟩])⟩ := by kernel_rfl

/-- (*allotment/renew.Renewer).settle -/
theorem tr43 : trF Tryz.prog pures Tryz.f43 = some
 ⟨93, [],
  (.seq (.reg [⟨(some 5), (.mv (.tmp 0)), none⟩, ⟨(some 6), (.nilck (.tmp 5)), none⟩, ⟨(some 7), (.fad 4 (.tmp 6)), none⟩, ⟨(some 8), (.ld1 (.tmp 7)), none⟩, ⟨(some 9), (.call 50 [(.tmp 8)]), none⟩, ⟨(some 4), (.mv (.tmp 9)), none⟩, ⟨(some 10), (.ext 0 (.tmp 4)), none⟩, ⟨(some 11), (.ext 1 (.tmp 4)), none⟩, ⟨(some 2), (.alc 35 (.agg #[(.bool false), (.int .i64 0), (.int .i64 0), (.int .i64 0), (.int .i64 0)])), none⟩, ⟨none, (.stn 5 (.tmp 2) (.tmp 10)), none⟩, ⟨(some 3), (.mv (.tmp 11)), none⟩])
  (.block 0
  (.seq (.reg [⟨(some 26), (.mv (.tmp 0)), none⟩, ⟨(some 27), (.nilck (.tmp 26)), none⟩, ⟨(some 28), (.fad 6 (.tmp 27)), none⟩, ⟨(some 29), (.ld1 (.tmp 28)), none⟩, ⟨(some 30), (.call 70 [(.tmp 29)]), none⟩, ⟨(some 25), (.mv (.tmp 30)), none⟩])
  (.cond (.tmp 25)
  (.reg [⟨(some 31), (.mv (.tmp 0)), none⟩, ⟨(some 32), (.call 40 [(.tmp 31), (.const (.int .i64 1))]), none⟩])
  (.seq (.reg [⟨(some 34), (.mv (.tmp 0)), none⟩, ⟨(some 35), (.nilck (.tmp 34)), none⟩, ⟨(some 36), (.fad 7 (.tmp 35)), none⟩, ⟨(some 37), (.ld1 (.tmp 36)), none⟩, ⟨(some 38), (.call 71 [(.tmp 37)]), none⟩, ⟨(some 33), (.mv (.tmp 38)), none⟩])
  (.cond (.tmp 33)
  (.reg [⟨(some 39), (.mv (.tmp 0)), none⟩, ⟨(some 40), (.call 40 [(.tmp 39), (.const (.int .i64 0))]), none⟩])
  (.seq (.reg [⟨(some 42), (.mv (.tmp 0)), none⟩, ⟨(some 43), (.nilck (.tmp 42)), none⟩, ⟨(some 44), (.fad 4 (.tmp 43)), none⟩, ⟨(some 45), (.ld1 (.tmp 44)), none⟩, ⟨(some 46), (.call 44 [(.tmp 45)]), none⟩, ⟨(some 47), (.nt (.tmp 46)), none⟩, ⟨(some 41), (.mv (.tmp 47)), none⟩])
  (.cond (.tmp 41) .skip
  (.seq (.reg [⟨(some 49), (.mv (.tmp 3)), none⟩, ⟨(some 50), (.nt (.tmp 49)), none⟩, ⟨(some 48), (.mv (.tmp 50)), none⟩])
  (.cond (.tmp 48)
  (.reg [⟨(some 51), (.mv (.tmp 0)), none⟩, ⟨(some 52), (.call 40 [(.tmp 51), (.const (.int .i64 3))]), none⟩])
  (.seq (.reg [⟨(some 54), (.mv (.tmp 0)), none⟩, ⟨(some 55), (.nilck (.tmp 54)), none⟩, ⟨(some 56), (.fad 6 (.tmp 55)), none⟩, ⟨(some 57), (.ld1 (.tmp 56)), none⟩, ⟨(some 58), (.pnil true (.tmp 57)), none⟩, ⟨(some 59), (.mv (.tmp 58)), none⟩, ⟨(some 60), (.mv (.tmp 0)), (some (59, false))⟩, ⟨(some 61), (.nilck (.tmp 60)), (some (59, false))⟩, ⟨(some 62), (.fad 7 (.tmp 61)), (some (59, false))⟩, ⟨(some 63), (.ld1 (.tmp 62)), (some (59, false))⟩, ⟨(some 64), (.pnil true (.tmp 63)), (some (59, false))⟩, ⟨(some 65), (.pick (.tmp 59) (.const (.bool true)) (.tmp 64)), none⟩, ⟨(some 66), (.mv (.tmp 65)), none⟩, ⟨(some 67), (.mv (.tmp 0)), (some (66, false))⟩, ⟨(some 68), (.nilck (.tmp 67)), (some (66, false))⟩, ⟨(some 69), (.fad 5 (.tmp 68)), (some (66, false))⟩, ⟨(some 70), (.ld1 (.tmp 69)), (some (66, false))⟩, ⟨(some 71), (.call 46 [(.tmp 70)]), (some (66, false))⟩, ⟨(some 72), (.nt (.tmp 71)), (some (66, false))⟩, ⟨(some 73), (.pick (.tmp 66) (.const (.bool true)) (.tmp 72)), none⟩, ⟨(some 53), (.mv (.tmp 73)), none⟩])
  (.cond (.tmp 53) .skip
  (.seq (.reg [⟨(some 75), (.mv (.tmp 0)), none⟩, ⟨(some 76), (.nilck (.tmp 75)), none⟩, ⟨(some 77), (.fad 5 (.tmp 76)), none⟩, ⟨(some 78), (.ld1 (.tmp 77)), none⟩, ⟨(some 79), (.call 55 [(.tmp 78)]), none⟩, ⟨(some 74), (.mv (.tmp 79)), none⟩])
  (.cond (.tmp 74)
  (.draw (.take ⟨(some 80), (.mv (.tmp 0)), none⟩ (.take ⟨(some 81), (.mv (.tmp 0)), none⟩ (.take ⟨(some 82), (.nilck (.tmp 81)), none⟩ (.take ⟨(some 83), (.fad 0 (.tmp 82)), none⟩ (.take ⟨(some 84), (.ldn 3 (.tmp 83)), none⟩ (.take ⟨(some 85), (.mv (.tmp 0)), none⟩ (.take ⟨(some 86), (.nilck (.tmp 85)), none⟩ (.take ⟨(some 87), (.fad 3 (.tmp 86)), none⟩ (.take ⟨(some 88), (.ld1 (.tmp 87)), none⟩ (.take ⟨(some 89), (.ldn 5 (.tmp 2)), none⟩ (.alt false ⟨(some 90), (.call 72 [(.tmp 84), (.tmp 88), (.tmp 89)]), none⟩ (.take ⟨(some 91), (.nilck (.tmp 80)), none⟩ (.take ⟨(some 92), (.fad 7 (.tmp 91)), none⟩ (.alt true ⟨none, (.st1 (.tmp 92) (.tmp 90)), none⟩ .done .stop))) .stop))))))))))))
  (.draw (.take ⟨(some 12), (.mv (.tmp 0)), none⟩ (.take ⟨(some 13), (.mv (.tmp 0)), none⟩ (.take ⟨(some 14), (.nilck (.tmp 13)), none⟩ (.take ⟨(some 15), (.fad 0 (.tmp 14)), none⟩ (.take ⟨(some 16), (.ldn 3 (.tmp 15)), none⟩ (.take ⟨(some 17), (.mv (.tmp 0)), none⟩ (.take ⟨(some 18), (.nilck (.tmp 17)), none⟩ (.take ⟨(some 19), (.fad 3 (.tmp 18)), none⟩ (.take ⟨(some 20), (.ld1 (.tmp 19)), none⟩ (.take ⟨(some 21), (.ldn 5 (.tmp 2)), none⟩ (.alt false ⟨(some 22), (.call 73 [(.tmp 16), (.tmp 20), (.tmp 21)]), none⟩ (.take ⟨(some 23), (.nilck (.tmp 12)), none⟩ (.take ⟨(some 24), (.fad 6 (.tmp 23)), none⟩ (.alt true ⟨none, (.st1 (.tmp 24) (.tmp 22)), none⟩ .done .stop))) .stop))))))))))))))))))))))))))⟩ := by kernel_rfl

end Go.Proofs.YtapkiooeemamjaaGreat
