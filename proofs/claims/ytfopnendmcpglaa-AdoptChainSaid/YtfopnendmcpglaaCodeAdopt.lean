/-
  The compact code of functions of this seat, as translated from the model: each translation holds by reckoning. Conditions: none.
-/
import Derived.Test.YtfopnendmcpglaaCode
set_option maxRecDepth 100000
namespace Go.Proofs.Ytfopnendmcpglaa
open Go Go.Ev

/-- (*allotment/adopt.Adopter).ask -/
theorem tr118 : trF Try.prog pures Try.f118 = some
  ⟨60, [],
    (.seq (.draw (.take ⟨(some 6), (.mv (.tmp 0)), none⟩ (.take ⟨(some 7), (.mv (.tmp 1)), none⟩ (.take ⟨(some 8), (.mv (.tmp 0)), none⟩ (.take ⟨(some 9), (.nilck (.tmp 8)), none⟩ (.take ⟨(some 10), (.fad 3 (.tmp 9)), none⟩ (.take ⟨(some 11), (.ld1 (.tmp 10)), none⟩ (.take ⟨(some 12), (.mv (.tmp 0)), none⟩ (.take ⟨(some 13), (.nilck (.tmp 12)), none⟩ (.take ⟨(some 14), (.fad 0 (.tmp 13)), none⟩ (.take ⟨(some 15), (.ldn 3 (.tmp 14)), none⟩ (.take ⟨(some 16), (.mv (.tmp 0)), none⟩ (.take ⟨(some 17), (.nilck (.tmp 16)), none⟩ (.take ⟨(some 18), (.fad 4 (.tmp 17)), none⟩ (.take ⟨(some 19), (.ld1 (.tmp 18)), none⟩ (.alt false ⟨(some 20), (.pcall 65 [(.tmp 15), (.tmp 19)]), none⟩ (.alt false ⟨(some 21), (.call 105 [(.tmp 7), (.tmp 11), (.tmp 20)]), none⟩ (.take ⟨(some 22), (.nilck (.tmp 6)), none⟩ (.take ⟨(some 23), (.fad 6 (.tmp 22)), none⟩ (.alt true ⟨none, (.st1 (.tmp 23) (.tmp 21)), none⟩ .done .stop))) .stop) .stop))))))))))))))))
    (.seq (.reg [⟨(some 25), (.mv (.tmp 0)), none⟩, ⟨(some 26), (.nilck (.tmp 25)), none⟩, ⟨(some 27), (.fad 6 (.tmp 26)), none⟩, ⟨(some 28), (.ld1 (.tmp 27)), none⟩, ⟨(some 29), (.pcall 119 [(.tmp 28)]), none⟩, ⟨(some 24), (.mv (.tmp 29)), none⟩, ⟨(some 30), (.ext 0 (.tmp 24)), none⟩, ⟨(some 31), (.ext 1 (.tmp 24)), none⟩, ⟨(some 4), (.mv (.tmp 30)), none⟩, ⟨(some 5), (.mv (.tmp 31)), none⟩])
    (.block 0
    (.seq (.reg [⟨(some 40), (.mv (.tmp 4)), none⟩, ⟨(some 41), (.cmp .eql (.tmp 40) (.const (.int .i64 2))), none⟩, ⟨(some 39), (.mv (.tmp 41)), none⟩])
    (.cond (.tmp 39)
    (.reg [⟨(some 42), (.mv (.tmp 0)), none⟩, ⟨(some 43), (.nilck (.tmp 42)), none⟩, ⟨(some 44), (.fad 5 (.tmp 43)), none⟩, ⟨none, (.st1 (.tmp 44) (.const (.int .i64 2))), none⟩])
    (.seq (.reg [⟨(some 46), (.mv (.tmp 4)), none⟩, ⟨(some 47), (.cmp .neq (.tmp 46) (.const (.int .i64 3))), none⟩, ⟨(some 45), (.mv (.tmp 47)), none⟩])
    (.cond (.tmp 45)
    (.reg [⟨(some 48), (.mv (.tmp 0)), none⟩, ⟨(some 49), (.call 93 [(.tmp 48), (.const (.int .i64 5))]), none⟩])
    (.seq (.reg [⟨(some 51), (.mv (.tmp 0)), none⟩, ⟨(some 52), (.nilck (.tmp 51)), none⟩, ⟨(some 53), (.fad 0 (.tmp 52)), none⟩, ⟨(some 54), (.ldn 3 (.tmp 53)), none⟩, ⟨(some 55), (.mv (.tmp 5)), none⟩, ⟨(some 56), (.pcall 65 [(.tmp 54), (.tmp 55)]), none⟩, ⟨(some 57), (.cmp .lss (.tmp 56) (.const (.int .i64 0))), none⟩, ⟨(some 50), (.mv (.tmp 57)), none⟩])
    (.cond (.tmp 50)
    (.reg [⟨(some 58), (.mv (.tmp 0)), none⟩, ⟨(some 59), (.call 93 [(.tmp 58), (.const (.int .i64 4))]), none⟩])
    (.reg [⟨(some 32), (.mv (.tmp 0)), none⟩, ⟨(some 33), (.mv (.tmp 0)), none⟩, ⟨(some 34), (.mv (.tmp 5)), none⟩, ⟨(some 35), (.nilck (.tmp 32)), none⟩, ⟨(some 36), (.fad 7 (.tmp 35)), none⟩, ⟨none, (.st1 (.tmp 36) (.tmp 34)), none⟩, ⟨(some 37), (.nilck (.tmp 33)), none⟩, ⟨(some 38), (.fad 5 (.tmp 37)), none⟩, ⟨none, (.st1 (.tmp 38) (.const (.int .i64 1))), none⟩]))))))))))⟩ := by kernel_rfl

/-- (*allotment/adopt.Adopter).read -/
theorem tr121 : trF Try.prog pures Try.f121 = some
  ⟨28, [(.cn 6 3), (.t 7)],
    (.seq (.reg [⟨(some 6), (.alc 103 (.agg #[(.int .i64 0), (.int .i64 0), (.int .i64 0)])), none⟩, ⟨(some 7), (.mv (.const (.bool false))), none⟩])
    (.seq (.draw (.take ⟨(some 8), (.mv (.tmp 0)), none⟩ (.take ⟨(some 9), (.nilck (.tmp 8)), none⟩ (.take ⟨(some 10), (.fad 0 (.tmp 9)), none⟩ (.take ⟨(some 11), (.ldn 3 (.tmp 10)), none⟩ (.take ⟨(some 12), (.mv (.tmp 2)), none⟩ (.take ⟨(some 13), (.mv (.tmp 1)), none⟩ (.take ⟨(some 14), (.mv (.tmp 0)), none⟩ (.take ⟨(some 15), (.nilck (.tmp 14)), none⟩ (.take ⟨(some 16), (.fad 3 (.tmp 15)), none⟩ (.take ⟨(some 17), (.ld1 (.tmp 16)), none⟩ (.take ⟨(some 18), (.mv (.tmp 0)), none⟩ (.take ⟨(some 19), (.nilck (.tmp 18)), none⟩ (.take ⟨(some 20), (.fad 0 (.tmp 19)), none⟩ (.take ⟨(some 21), (.ldn 3 (.tmp 20)), none⟩ (.take ⟨(some 22), (.mv (.tmp 2)), none⟩ (.alt false ⟨(some 23), (.pcall 68 [(.tmp 21), (.tmp 22)]), none⟩ (.alt false ⟨(some 24), (.call 105 [(.tmp 13), (.tmp 17), (.tmp 23)]), none⟩ (.alt false ⟨(some 25), (.pcall 103 [(.tmp 11), (.tmp 12), (.tmp 24)]), none⟩ (.take ⟨(some 26), (.ext 0 (.tmp 25)), none⟩ (.take ⟨(some 27), (.ext 1 (.tmp 25)), none⟩ (.alt false ⟨none, (.stn 3 (.tmp 6) (.tmp 26)), none⟩ (.take ⟨(some 7), (.mv (.tmp 27)), none⟩ .done) .stop))) .stop) .stop) .stop))))))))))))))))) .ret))⟩ := by kernel_rfl

/-- (*allotment/adopt.Adopter).turn -/
theorem tr122 : trF Try.prog pures Try.f122 = some
  ⟨53, [],
    (.seq (.reg [⟨(some 6), (.mv (.tmp 0)), none⟩, ⟨(some 7), (.nilck (.tmp 6)), none⟩, ⟨(some 8), (.fad 8 (.tmp 7)), none⟩, ⟨(some 9), (.ld1 (.tmp 8)), none⟩, ⟨(some 10), (.ar .add (.tmp 9) (.const (.int .i64 1))), none⟩, ⟨(some 11), (.nilck (.tmp 6)), none⟩, ⟨(some 12), (.fad 8 (.tmp 11)), none⟩, ⟨none, (.st1 (.tmp 12) (.tmp 10)), none⟩])
    (.seq (.reg [⟨(some 13), (.mv (.tmp 0)), none⟩, ⟨(some 14), (.mv (.tmp 1)), none⟩, ⟨(some 15), (.nilck (.tmp 13)), none⟩, ⟨(some 16), (.fad 5 (.tmp 15)), none⟩, ⟨none, (.st1 (.tmp 16) (.tmp 14)), none⟩])
    (.seq (.seq
    (.reg [⟨(some 17), (.mv (.tmp 0)), none⟩, ⟨(some 18), (.nilck (.tmp 17)), none⟩, ⟨(some 19), (.fad 8 (.tmp 18)), none⟩, ⟨(some 20), (.ld1 (.tmp 19)), none⟩, ⟨(some 21), (.mv (.tmp 0)), none⟩, ⟨(some 22), (.nilck (.tmp 21)), none⟩, ⟨(some 23), (.fad 0 (.tmp 22)), none⟩, ⟨(some 24), (.fad 0 (.tmp 23)), none⟩, ⟨(some 25), (.ld1 (.tmp 24)), none⟩, ⟨(some 26), (.cmp .eql (.tmp 20) (.tmp 25)), none⟩])
    (.cond (.tmp 26)
    (.reg [⟨(some 27), (.mv (.tmp 0)), none⟩, ⟨(some 28), (.mv (.tmp 0)), none⟩, ⟨(some 29), (.mv (.tmp 0)), none⟩, ⟨(some 30), (.mv (.tmp 2)), none⟩, ⟨(some 31), (.nilck (.tmp 27)), none⟩, ⟨(some 32), (.fad 8 (.tmp 31)), none⟩, ⟨none, (.st1 (.tmp 32) (.const (.int .i64 0))), none⟩, ⟨(some 33), (.nilck (.tmp 28)), none⟩, ⟨(some 34), (.fad 9 (.tmp 33)), none⟩, ⟨none, (.st1 (.tmp 34) (.const (.int .i64 0))), none⟩, ⟨(some 35), (.nilck (.tmp 29)), none⟩, ⟨(some 36), (.fad 5 (.tmp 35)), none⟩, ⟨none, (.st1 (.tmp 36) (.tmp 30)), none⟩]) .skip))
    (.seq (.reg [⟨(some 37), (.mv (.tmp 0)), none⟩, ⟨(some 38), (.nilck (.tmp 37)), none⟩, ⟨(some 39), (.fad 5 (.tmp 38)), none⟩, ⟨(some 40), (.ld1 (.tmp 39)), none⟩, ⟨(some 41), (.cmp .eql (.tmp 40) (.const (.int .i64 9))), none⟩, ⟨(some 42), (.mv (.tmp 41)), none⟩, ⟨(some 43), (.mv (.tmp 0)), (some (42, true))⟩, ⟨(some 44), (.nilck (.tmp 43)), (some (42, true))⟩, ⟨(some 45), (.fad 0 (.tmp 44)), (some (42, true))⟩, ⟨(some 46), (.fad 2 (.tmp 45)), (some (42, true))⟩, ⟨(some 47), (.ld1 (.tmp 46)), (some (42, true))⟩, ⟨(some 48), (.cmp .eql (.tmp 47) (.const (.int .i64 0))), (some (42, true))⟩, ⟨(some 49), (.pick (.tmp 42) (.tmp 48) (.const (.bool false))), none⟩])
    (.cond (.tmp 49)
    (.reg [⟨(some 50), (.mv (.tmp 0)), none⟩, ⟨(some 51), (.nilck (.tmp 50)), none⟩, ⟨(some 52), (.fad 5 (.tmp 51)), none⟩, ⟨none, (.st1 (.tmp 52) (.const (.int .i64 10))), none⟩]) .skip)))))⟩ := by kernel_rfl

/-- (*allotment/adopt.Adopter).own -/
theorem tr123 : trF Try.prog pures Try.f123 = some
  ⟨22, [(.t 6)],
    (.seq (.reg [⟨(some 4), (.box 103 (.tmp 1)), none⟩, ⟨(some 6), (.mv (.const (.bool false))), none⟩])
    (.seq (.reg [⟨(some 7), (.mv (.tmp 2)), none⟩, ⟨(some 8), (.mv (.tmp 7)), none⟩, ⟨(some 9), (.fad 0 (.tmp 4)), (some (8, true))⟩, ⟨(some 10), (.ld1 (.tmp 9)), (some (8, true))⟩, ⟨(some 11), (.cmp .eql (.tmp 10) (.const (.int .i64 1))), (some (8, true))⟩, ⟨(some 12), (.pick (.tmp 8) (.tmp 11) (.const (.bool false))), none⟩, ⟨(some 13), (.mv (.tmp 12)), none⟩, ⟨(some 14), (.fad 1 (.tmp 4)), (some (13, true))⟩, ⟨(some 15), (.ld1 (.tmp 14)), (some (13, true))⟩, ⟨(some 16), (.mv (.tmp 0)), (some (13, true))⟩, ⟨(some 17), (.nilck (.tmp 16)), (some (13, true))⟩, ⟨(some 18), (.fad 4 (.tmp 17)), (some (13, true))⟩, ⟨(some 19), (.ld1 (.tmp 18)), (some (13, true))⟩, ⟨(some 20), (.cmp .eql (.tmp 15) (.tmp 19)), (some (13, true))⟩, ⟨(some 21), (.pick (.tmp 13) (.tmp 20) (.const (.bool false))), none⟩, ⟨(some 6), (.mv (.tmp 21)), none⟩]) .ret))⟩ := by kernel_rfl

/-- (*allotment/adopt.Adopter).slot -/
theorem tr124 : trF Try.prog pures Try.f124 = some
  ⟨28, [],
    (.seq (.reg [⟨(some 2), (.mv (.tmp 0)), none⟩, ⟨(some 3), (.nilck (.tmp 2)), none⟩, ⟨(some 4), (.fad 9 (.tmp 3)), none⟩, ⟨(some 5), (.ld1 (.tmp 4)), none⟩, ⟨(some 6), (.ar .add (.tmp 5) (.const (.int .i64 1))), none⟩, ⟨(some 7), (.nilck (.tmp 2)), none⟩, ⟨(some 8), (.fad 9 (.tmp 7)), none⟩, ⟨none, (.st1 (.tmp 8) (.tmp 6)), none⟩])
    (.seq (.reg [⟨(some 9), (.mv (.tmp 0)), none⟩, ⟨(some 10), (.nilck (.tmp 9)), none⟩, ⟨(some 11), (.fad 5 (.tmp 10)), none⟩, ⟨none, (.st1 (.tmp 11) (.const (.int .i64 11))), none⟩])
    (.seq (.reg [⟨(some 12), (.mv (.tmp 0)), none⟩, ⟨(some 13), (.nilck (.tmp 12)), none⟩, ⟨(some 14), (.fad 9 (.tmp 13)), none⟩, ⟨(some 15), (.ld1 (.tmp 14)), none⟩, ⟨(some 16), (.mv (.tmp 0)), none⟩, ⟨(some 17), (.nilck (.tmp 16)), none⟩, ⟨(some 18), (.fad 10 (.tmp 17)), none⟩, ⟨(some 19), (.fad 1 (.tmp 18)), none⟩, ⟨(some 20), (.ld1 (.tmp 19)), none⟩, ⟨(some 21), (.pcall 100 [(.tmp 20)]), none⟩, ⟨(some 22), (.cmp .eql (.tmp 15) (.tmp 21)), none⟩])
    (.cond (.tmp 22)
    (.seq (.reg [⟨(some 23), (.mv (.tmp 0)), none⟩, ⟨(some 24), (.nilck (.tmp 23)), none⟩, ⟨(some 25), (.fad 9 (.tmp 24)), none⟩, ⟨none, (.st1 (.tmp 25) (.const (.int .i64 0))), none⟩])
    (.reg [⟨(some 26), (.mv (.tmp 0)), none⟩, ⟨(some 27), (.call 122 [(.tmp 26), (.const (.int .i64 10)), (.const (.int .i64 13))]), none⟩])) .skip))))⟩ := by kernel_rfl

/-- allotment/adopt.New -/
theorem tr33 : trF Try.prog pures Try.f33 = some
  ⟨31, [(.t 6)],
    (.seq (.reg [⟨(some 3), (.box 23 (.tmp 0)), none⟩, ⟨(some 6), (.mv (.const (.pointer none))), none⟩])
    (.seq (.reg [⟨(some 8), (.ldn 3 (.tmp 3)), none⟩, ⟨(some 9), (.mv (.tmp 1)), none⟩, ⟨(some 10), (.mv (.tmp 2)), none⟩, ⟨(some 11), (.bld #[(.int .i64 0), (.int .i64 0), (.int .i64 0), (.int .i64 0), (.int .i64 0), (.int .i64 0), (.int .u64 0), (.int .i64 0), (.int .i64 0), (.int .i64 0), (.int .i64 0), (.int .i64 0), (.int .i64 0), (.int .i64 0), (.bool false)] [(0, (3, (.tmp 8))), (3, (1, (.tmp 9))), (4, (1, (.tmp 10)))]), none⟩, ⟨(some 12), (.box 121 (.tmp 11)), none⟩, ⟨(some 7), (.mv (.tmp 12)), none⟩])
    (.seq (.seq
    (.reg [⟨(some 13), (.ldn 3 (.tmp 3)), none⟩, ⟨(some 14), (.mv (.tmp 1)), none⟩, ⟨(some 15), (.pcall 65 [(.tmp 13), (.tmp 14)]), none⟩, ⟨(some 16), (.cmp .lss (.tmp 15) (.const (.int .i64 0))), none⟩, ⟨(some 17), (.mv (.tmp 16)), none⟩, ⟨(some 18), (.ldn 3 (.tmp 3)), (some (17, false))⟩, ⟨(some 19), (.mv (.tmp 2)), (some (17, false))⟩, ⟨(some 20), (.pcall 65 [(.tmp 18), (.tmp 19)]), (some (17, false))⟩, ⟨(some 21), (.cmp .lss (.tmp 20) (.const (.int .i64 0))), (some (17, false))⟩, ⟨(some 22), (.pick (.tmp 17) (.const (.bool true)) (.tmp 21)), none⟩, ⟨(some 23), (.mv (.tmp 22)), none⟩, ⟨(some 24), (.mv (.tmp 1)), (some (23, false))⟩, ⟨(some 25), (.mv (.tmp 2)), (some (23, false))⟩, ⟨(some 26), (.cmp .eql (.tmp 24) (.tmp 25)), (some (23, false))⟩, ⟨(some 27), (.pick (.tmp 23) (.const (.bool true)) (.tmp 26)), none⟩])
    (.cond (.tmp 27)
    (.reg [⟨(some 28), (.mv (.tmp 7)), none⟩, ⟨(some 29), (.call 93 [(.tmp 28), (.const (.int .i64 1))]), none⟩]) .skip))
    (.seq (.reg [⟨(some 30), (.mv (.tmp 7)), none⟩, ⟨(some 6), (.mv (.tmp 30)), none⟩]) .ret))))⟩ := by kernel_rfl

/-- (*allotment/adopt.Adopter).Step -/
theorem tr34 : trF Try.prog pures Try.f34 = some
  ⟨82, [],
    (.block 0
    (.seq (.reg [⟨(some 8), (.mv (.tmp 0)), none⟩, ⟨(some 9), (.pnil false (.tmp 8)), none⟩, ⟨(some 10), (.mv (.tmp 9)), none⟩, ⟨(some 11), (.mv (.tmp 0)), (some (10, false))⟩, ⟨(some 12), (.nilck (.tmp 11)), (some (10, false))⟩, ⟨(some 13), (.fad 14 (.tmp 12)), (some (10, false))⟩, ⟨(some 14), (.ld1 (.tmp 13)), (some (10, false))⟩, ⟨(some 15), (.pick (.tmp 10) (.const (.bool true)) (.tmp 14)), none⟩, ⟨(some 7), (.mv (.tmp 15)), none⟩])
    (.cond (.tmp 7) .skip
    (.seq (.reg [⟨(some 17), (.mv (.tmp 0)), none⟩, ⟨(some 18), (.nilck (.tmp 17)), none⟩, ⟨(some 19), (.fad 5 (.tmp 18)), none⟩, ⟨(some 20), (.ld1 (.tmp 19)), none⟩, ⟨(some 21), (.cmp .leq (.tmp 20) (.const (.int .i64 2))), none⟩, ⟨(some 16), (.mv (.tmp 21)), none⟩])
    (.cond (.tmp 16)
    (.reg [⟨(some 22), (.mv (.tmp 0)), none⟩, ⟨(some 23), (.mv (.tmp 1)), none⟩, ⟨(some 24), (.call 94 [(.tmp 22), (.tmp 23)]), none⟩])
    (.seq (.reg [⟨(some 26), (.mv (.tmp 0)), none⟩, ⟨(some 27), (.nilck (.tmp 26)), none⟩, ⟨(some 28), (.fad 5 (.tmp 27)), none⟩, ⟨(some 29), (.ld1 (.tmp 28)), none⟩, ⟨(some 30), (.cmp .leq (.tmp 29) (.const (.int .i64 8))), none⟩, ⟨(some 25), (.mv (.tmp 30)), none⟩])
    (.cond (.tmp 25)
    (.reg [⟨(some 31), (.mv (.tmp 0)), none⟩, ⟨(some 32), (.mv (.tmp 1)), none⟩, ⟨(some 33), (.call 95 [(.tmp 31), (.tmp 32)]), none⟩])
    (.seq (.reg [⟨(some 35), (.mv (.tmp 0)), none⟩, ⟨(some 36), (.nilck (.tmp 35)), none⟩, ⟨(some 37), (.fad 5 (.tmp 36)), none⟩, ⟨(some 38), (.ld1 (.tmp 37)), none⟩, ⟨(some 39), (.cmp .eql (.tmp 38) (.const (.int .i64 9))), none⟩, ⟨(some 34), (.mv (.tmp 39)), none⟩])
    (.cond (.tmp 34)
    (.seq (.draw (.take ⟨(some 40), (.mv (.tmp 1)), none⟩ (.take ⟨(some 41), (.mv (.tmp 0)), none⟩ (.take ⟨(some 42), (.nilck (.tmp 41)), none⟩ (.take ⟨(some 43), (.fad 3 (.tmp 42)), none⟩ (.take ⟨(some 44), (.ld1 (.tmp 43)), none⟩ (.take ⟨(some 45), (.mv (.tmp 0)), none⟩ (.take ⟨(some 46), (.nilck (.tmp 45)), none⟩ (.take ⟨(some 47), (.fad 0 (.tmp 46)), none⟩ (.take ⟨(some 48), (.ldn 3 (.tmp 47)), none⟩ (.take ⟨(some 49), (.mv (.tmp 0)), none⟩ (.take ⟨(some 50), (.nilck (.tmp 49)), none⟩ (.take ⟨(some 51), (.fad 4 (.tmp 50)), none⟩ (.take ⟨(some 52), (.ld1 (.tmp 51)), none⟩ (.take ⟨(some 53), (.mv (.tmp 0)), none⟩ (.take ⟨(some 54), (.nilck (.tmp 53)), none⟩ (.take ⟨(some 55), (.fad 9 (.tmp 54)), none⟩ (.take ⟨(some 56), (.ld1 (.tmp 55)), none⟩ (.alt false ⟨(some 57), (.pcall 96 [(.tmp 48), (.tmp 52), (.tmp 56)]), none⟩ (.alt true ⟨(some 58), (.call 75 [(.tmp 40), (.tmp 44), (.tmp 57), (.const (.int .u64 0))]), none⟩ .done .stop) .stop)))))))))))))))))))
    (.seq (.reg [⟨(some 59), (.mv (.tmp 0)), none⟩, ⟨(some 60), (.nilck (.tmp 59)), none⟩, ⟨(some 61), (.fad 9 (.tmp 60)), none⟩, ⟨(some 62), (.ld1 (.tmp 61)), none⟩, ⟨(some 63), (.ar .add (.tmp 62) (.const (.int .i64 1))), none⟩, ⟨(some 64), (.nilck (.tmp 59)), none⟩, ⟨(some 65), (.fad 9 (.tmp 64)), none⟩, ⟨none, (.st1 (.tmp 65) (.tmp 63)), none⟩])
    (.seq (.reg [⟨(some 66), (.mv (.tmp 0)), none⟩, ⟨(some 67), (.nilck (.tmp 66)), none⟩, ⟨(some 68), (.fad 9 (.tmp 67)), none⟩, ⟨(some 69), (.ld1 (.tmp 68)), none⟩, ⟨(some 70), (.mv (.tmp 0)), none⟩, ⟨(some 71), (.nilck (.tmp 70)), none⟩, ⟨(some 72), (.fad 0 (.tmp 71)), none⟩, ⟨(some 73), (.fad 2 (.tmp 72)), none⟩, ⟨(some 74), (.ld1 (.tmp 73)), none⟩, ⟨(some 75), (.cmp .eql (.tmp 69) (.tmp 74)), none⟩])
    (.cond (.tmp 75)
    (.reg [⟨(some 76), (.mv (.tmp 0)), none⟩, ⟨(some 77), (.mv (.tmp 0)), none⟩, ⟨(some 78), (.nilck (.tmp 76)), none⟩, ⟨(some 79), (.fad 9 (.tmp 78)), none⟩, ⟨none, (.st1 (.tmp 79) (.const (.int .i64 0))), none⟩, ⟨(some 80), (.nilck (.tmp 77)), none⟩, ⟨(some 81), (.fad 5 (.tmp 80)), none⟩, ⟨none, (.st1 (.tmp 81) (.const (.int .i64 10))), none⟩]) .skip))))
    (.reg [⟨(some 4), (.mv (.tmp 0)), none⟩, ⟨(some 5), (.mv (.tmp 1)), none⟩, ⟨(some 6), (.call 97 [(.tmp 4), (.tmp 5)]), none⟩]))))))))))⟩ := by kernel_rfl

/-- (*allotment/adopt.Adopter).Done -/
theorem tr37 : trF Try.prog pures Try.f37 = some
  ⟨11, [(.t 2)],
    (.seq (.reg [⟨(some 2), (.mv (.const (.bool false))), none⟩])
    (.seq (.reg [⟨(some 3), (.mv (.tmp 0)), none⟩, ⟨(some 4), (.pnil true (.tmp 3)), none⟩, ⟨(some 5), (.mv (.tmp 4)), none⟩, ⟨(some 6), (.mv (.tmp 0)), (some (5, true))⟩, ⟨(some 7), (.nilck (.tmp 6)), (some (5, true))⟩, ⟨(some 8), (.fad 14 (.tmp 7)), (some (5, true))⟩, ⟨(some 9), (.ld1 (.tmp 8)), (some (5, true))⟩, ⟨(some 10), (.pick (.tmp 5) (.tmp 9) (.const (.bool false))), none⟩, ⟨(some 2), (.mv (.tmp 10)), none⟩]) .ret))⟩ := by kernel_rfl

/-- (*allotment/adopt.Adopter).Err -/
theorem tr39 : trF Try.prog pures Try.f39 = some
  ⟨9, [(.t 2)],
    (.seq (.reg [⟨(some 2), (.mv (.const (.int .i64 0))), none⟩])
    (.seq (.seq
    (.reg [⟨(some 3), (.mv (.tmp 0)), none⟩, ⟨(some 4), (.pnil false (.tmp 3)), none⟩])
    (.cond (.tmp 4)
    (.seq (.reg [⟨(some 2), (.mv (.const (.int .i64 1))), none⟩]) .ret) .skip))
    (.seq (.reg [⟨(some 5), (.mv (.tmp 0)), none⟩, ⟨(some 6), (.nilck (.tmp 5)), none⟩, ⟨(some 7), (.fad 13 (.tmp 6)), none⟩, ⟨(some 8), (.ld1 (.tmp 7)), none⟩, ⟨(some 2), (.mv (.tmp 8)), none⟩]) .ret)))⟩ := by kernel_rfl

/-- (*allotment/adopt.Adopter).end -/
theorem tr93 : trF Try.prog pures Try.f93 = some
  ⟨11, [],
    (.reg [⟨(some 4), (.mv (.tmp 0)), none⟩, ⟨(some 5), (.mv (.tmp 0)), none⟩, ⟨(some 6), (.mv (.tmp 1)), none⟩, ⟨(some 7), (.nilck (.tmp 4)), none⟩, ⟨(some 8), (.fad 13 (.tmp 7)), none⟩, ⟨none, (.st1 (.tmp 8) (.tmp 6)), none⟩, ⟨(some 9), (.nilck (.tmp 5)), none⟩, ⟨(some 10), (.fad 14 (.tmp 9)), none⟩, ⟨none, (.st1 (.tmp 10) (.const (.bool true))), none⟩])⟩ := by kernel_rfl

/-- (*allotment/adopt.Adopter).begin -/
theorem tr94 : trF Try.prog pures Try.f94 = some
  ⟨73, [],
    (.seq (.reg [⟨(some 6), (.mv (.tmp 0)), none⟩, ⟨(some 7), (.nilck (.tmp 6)), none⟩, ⟨(some 8), (.fad 5 (.tmp 7)), none⟩, ⟨(some 9), (.ld1 (.tmp 8)), none⟩])
    (.block 0
    (.seq (.reg [⟨(some 41), (.cmp .eql (.tmp 9) (.const (.int .i64 0))), none⟩, ⟨(some 40), (.mv (.tmp 41)), none⟩])
    (.cond (.tmp 40)
    (.reg [⟨(some 42), (.mv (.tmp 0)), none⟩, ⟨(some 43), (.mv (.tmp 1)), none⟩, ⟨(some 44), (.call 118 [(.tmp 42), (.tmp 43)]), none⟩])
    (.seq (.reg [⟨(some 46), (.cmp .eql (.tmp 9) (.const (.int .i64 1))), none⟩, ⟨(some 45), (.mv (.tmp 46)), none⟩])
    (.cond (.tmp 45)
    (.seq (.draw (.take ⟨(some 48), (.mv (.tmp 1)), none⟩ (.take ⟨(some 49), (.mv (.tmp 0)), none⟩ (.take ⟨(some 50), (.nilck (.tmp 49)), none⟩ (.take ⟨(some 51), (.fad 3 (.tmp 50)), none⟩ (.take ⟨(some 52), (.ld1 (.tmp 51)), none⟩ (.take ⟨(some 53), (.mv (.tmp 0)), none⟩ (.take ⟨(some 54), (.nilck (.tmp 53)), none⟩ (.take ⟨(some 55), (.fad 0 (.tmp 54)), none⟩ (.take ⟨(some 56), (.ldn 3 (.tmp 55)), none⟩ (.take ⟨(some 57), (.mv (.tmp 0)), none⟩ (.take ⟨(some 58), (.nilck (.tmp 57)), none⟩ (.take ⟨(some 59), (.fad 7 (.tmp 58)), none⟩ (.take ⟨(some 60), (.ld1 (.tmp 59)), none⟩ (.alt false ⟨(some 61), (.pcall 65 [(.tmp 56), (.tmp 60)]), none⟩ (.alt false ⟨(some 62), (.call 105 [(.tmp 48), (.tmp 52), (.tmp 61)]), none⟩ (.alt false ⟨(some 63), (.pcall 119 [(.tmp 62)]), none⟩ (.take ⟨(some 47), (.mv (.tmp 63)), none⟩ (.take ⟨(some 64), (.ext 0 (.tmp 47)), none⟩ (.take ⟨(some 65), (.ext 1 (.tmp 47)), none⟩ (.take ⟨(some 4), (.mv (.tmp 64)), none⟩ (.take ⟨(some 5), (.mv (.tmp 65)), none⟩ .done))))) .stop) .stop) .stop)))))))))))))))
    (.seq (.reg [⟨(some 66), (.mv (.tmp 0)), none⟩, ⟨(some 67), (.nilck (.tmp 66)), none⟩, ⟨(some 68), (.fad 5 (.tmp 67)), none⟩, ⟨none, (.st1 (.tmp 68) (.const (.int .i64 2))), none⟩])
    (.seq (.reg [⟨(some 69), (.mv (.tmp 4)), none⟩, ⟨(some 70), (.cmp .eql (.tmp 69) (.const (.int .i64 1))), none⟩])
    (.cond (.tmp 70)
    (.reg [⟨(some 71), (.mv (.tmp 0)), none⟩, ⟨(some 72), (.call 93 [(.tmp 71), (.const (.int .i64 4))]), none⟩]) .skip))))
    (.seq (.reg [⟨(some 10), (.mv (.tmp 0)), none⟩, ⟨(some 11), (.nilck (.tmp 10)), none⟩, ⟨(some 12), (.fad 5 (.tmp 11)), none⟩, ⟨none, (.st1 (.tmp 12) (.const (.int .i64 3))), none⟩])
    (.seq (.draw (.take ⟨(some 13), (.mv (.tmp 1)), none⟩ (.take ⟨(some 14), (.mv (.tmp 0)), none⟩ (.take ⟨(some 15), (.nilck (.tmp 14)), none⟩ (.take ⟨(some 16), (.fad 3 (.tmp 15)), none⟩ (.take ⟨(some 17), (.ld1 (.tmp 16)), none⟩ (.take ⟨(some 18), (.mv (.tmp 0)), none⟩ (.take ⟨(some 19), (.nilck (.tmp 18)), none⟩ (.take ⟨(some 20), (.fad 0 (.tmp 19)), none⟩ (.take ⟨(some 21), (.ldn 3 (.tmp 20)), none⟩ (.take ⟨(some 22), (.mv (.tmp 0)), none⟩ (.take ⟨(some 23), (.nilck (.tmp 22)), none⟩ (.take ⟨(some 24), (.fad 4 (.tmp 23)), none⟩ (.take ⟨(some 25), (.ld1 (.tmp 24)), none⟩ (.take ⟨(some 27), (.mv (.tmp 0)), none⟩ (.take ⟨(some 28), (.nilck (.tmp 27)), none⟩ (.take ⟨(some 29), (.fad 6 (.tmp 28)), none⟩ (.take ⟨(some 30), (.ld1 (.tmp 29)), none⟩ (.take ⟨(some 31), (.mv (.tmp 0)), none⟩ (.take ⟨(some 32), (.nilck (.tmp 31)), none⟩ (.take ⟨(some 33), (.fad 3 (.tmp 32)), none⟩ (.take ⟨(some 34), (.ld1 (.tmp 33)), none⟩ (.alt false ⟨(some 26), (.pcall 65 [(.tmp 21), (.tmp 25)]), none⟩ (.alt false ⟨(some 35), (.pcall 120 [(.const (.int .i64 3)), (.tmp 34)]), none⟩ (.alt false ⟨(some 36), (.call 67 [(.tmp 13), (.tmp 17), (.tmp 26), (.tmp 30), (.tmp 35)]), none⟩ (.take ⟨(some 37), (.nt (.tmp 36)), none⟩ .done) .stop) .stop) .stop)))))))))))))))))))))))
    (.cond (.tmp 37)
    (.reg [⟨(some 38), (.mv (.tmp 0)), none⟩, ⟨(some 39), (.call 93 [(.tmp 38), (.const (.int .i64 4))]), none⟩]) .skip)))))))))⟩ := by kernel_rfl

/-- (*allotment/adopt.Adopter).held -/
theorem tr95 : trF Try.prog pures Try.f95 = some
  ⟨149, [],
    (.seq (.reg [⟨(some 6), (.mv (.tmp 0)), none⟩, ⟨(some 7), (.nilck (.tmp 6)), none⟩, ⟨(some 8), (.fad 5 (.tmp 7)), none⟩, ⟨(some 9), (.ld1 (.tmp 8)), none⟩])
    (.block 0
    (.seq (.reg [⟨(some 28), (.cmp .eql (.tmp 9) (.const (.int .i64 3))), none⟩, ⟨(some 27), (.mv (.tmp 28)), none⟩])
    (.cond (.tmp 27)
    (.seq (.reg [⟨(some 30), (.mv (.tmp 0)), none⟩, ⟨(some 31), (.mv (.tmp 1)), none⟩, ⟨(some 32), (.mv (.tmp 0)), none⟩, ⟨(some 33), (.nilck (.tmp 32)), none⟩, ⟨(some 34), (.fad 8 (.tmp 33)), none⟩, ⟨(some 35), (.ld1 (.tmp 34)), none⟩, ⟨(some 36), (.call 121 [(.tmp 30), (.tmp 31), (.tmp 35)]), none⟩, ⟨(some 29), (.mv (.tmp 36)), none⟩, ⟨(some 37), (.ext 0 (.tmp 29)), none⟩, ⟨(some 38), (.ext 1 (.tmp 29)), none⟩, ⟨(some 4), (.alc 103 (.agg #[(.int .i64 0), (.int .i64 0), (.int .i64 0)])), none⟩, ⟨none, (.stn 3 (.tmp 4) (.tmp 37)), none⟩, ⟨(some 5), (.mv (.tmp 38)), none⟩])
    (.seq (.seq
    (.reg [⟨(some 39), (.mv (.tmp 0)), none⟩, ⟨(some 40), (.ldn 3 (.tmp 4)), none⟩, ⟨(some 41), (.nilck (.tmp 39)), none⟩, ⟨(some 42), (.fad 10 (.tmp 41)), none⟩, ⟨none, (.stn 3 (.tmp 42) (.tmp 40)), none⟩])
    (.seq (.reg [⟨(some 43), (.mv (.tmp 5)), none⟩, ⟨(some 44), (.mv (.tmp 43)), none⟩, ⟨(some 45), (.fad 0 (.tmp 4)), (some (44, true))⟩, ⟨(some 46), (.ld1 (.tmp 45)), (some (44, true))⟩, ⟨(some 47), (.cmp .eql (.tmp 46) (.const (.int .i64 4))), (some (44, true))⟩, ⟨(some 48), (.pick (.tmp 44) (.tmp 47) (.const (.bool false))), none⟩])
    (.cond (.tmp 48)
    (.seq (.reg [⟨(some 49), (.mv (.tmp 0)), none⟩, ⟨(some 50), (.nilck (.tmp 49)), none⟩, ⟨(some 51), (.fad 5 (.tmp 50)), none⟩, ⟨none, (.st1 (.tmp 51) (.const (.int .i64 4))), none⟩]) .ret) .skip)))
    (.reg [⟨(some 52), (.mv (.tmp 0)), none⟩, ⟨(some 53), (.call 122 [(.tmp 52), (.const (.int .i64 3)), (.const (.int .i64 6))]), none⟩])))
    (.seq (.reg [⟨(some 55), (.cmp .eql (.tmp 9) (.const (.int .i64 4))), none⟩, ⟨(some 54), (.mv (.tmp 55)), none⟩])
    (.cond (.tmp 54)
    (.seq (.seq
    (.reg [⟨(some 56), (.mv (.tmp 0)), none⟩, ⟨(some 57), (.mv (.tmp 0)), none⟩, ⟨(some 58), (.mv (.tmp 1)), none⟩, ⟨(some 59), (.mv (.tmp 0)), none⟩, ⟨(some 60), (.nilck (.tmp 59)), none⟩, ⟨(some 61), (.fad 10 (.tmp 60)), none⟩, ⟨(some 62), (.fad 1 (.tmp 61)), none⟩, ⟨(some 63), (.ld1 (.tmp 62)), none⟩, ⟨(some 64), (.call 121 [(.tmp 57), (.tmp 58), (.tmp 63)]), none⟩, ⟨(some 65), (.ext 0 (.tmp 64)), none⟩, ⟨(some 66), (.ext 1 (.tmp 64)), none⟩, ⟨(some 67), (.call 123 [(.tmp 56), (.tmp 65), (.tmp 66)]), none⟩])
    (.cond (.tmp 67)
    (.seq (.reg [⟨(some 68), (.mv (.tmp 0)), none⟩, ⟨(some 69), (.nilck (.tmp 68)), none⟩, ⟨(some 70), (.fad 5 (.tmp 69)), none⟩, ⟨none, (.st1 (.tmp 70) (.const (.int .i64 5))), none⟩]) .ret) .skip))
    (.reg [⟨(some 71), (.mv (.tmp 0)), none⟩, ⟨(some 72), (.call 122 [(.tmp 71), (.const (.int .i64 3)), (.const (.int .i64 6))]), none⟩]))
    (.seq (.reg [⟨(some 74), (.cmp .eql (.tmp 9) (.const (.int .i64 5))), none⟩, ⟨(some 73), (.mv (.tmp 74)), none⟩])
    (.cond (.tmp 73)
    (.seq (.draw (.take ⟨(some 75), (.mv (.tmp 1)), none⟩ (.take ⟨(some 76), (.mv (.tmp 0)), none⟩ (.take ⟨(some 77), (.nilck (.tmp 76)), none⟩ (.take ⟨(some 78), (.fad 3 (.tmp 77)), none⟩ (.take ⟨(some 79), (.ld1 (.tmp 78)), none⟩ (.take ⟨(some 80), (.mv (.tmp 0)), none⟩ (.take ⟨(some 81), (.nilck (.tmp 80)), none⟩ (.take ⟨(some 82), (.fad 0 (.tmp 81)), none⟩ (.take ⟨(some 83), (.ldn 3 (.tmp 82)), none⟩ (.take ⟨(some 84), (.mv (.tmp 0)), none⟩ (.take ⟨(some 85), (.nilck (.tmp 84)), none⟩ (.take ⟨(some 86), (.fad 8 (.tmp 85)), none⟩ (.take ⟨(some 87), (.ld1 (.tmp 86)), none⟩ (.alt false ⟨(some 88), (.pcall 68 [(.tmp 83), (.tmp 87)]), none⟩ (.alt true ⟨(some 89), (.call 75 [(.tmp 75), (.tmp 79), (.tmp 88), (.const (.int .u64 0))]), none⟩ .done .stop) .stop)))))))))))))))
    (.reg [⟨(some 90), (.mv (.tmp 0)), none⟩, ⟨(some 91), (.call 122 [(.tmp 90), (.const (.int .i64 3)), (.const (.int .i64 6))]), none⟩]))
    (.seq (.reg [⟨(some 93), (.cmp .eql (.tmp 9) (.const (.int .i64 6))), none⟩, ⟨(some 92), (.mv (.tmp 93)), none⟩])
    (.cond (.tmp 92)
    (.seq (.seq
    (.reg [⟨(some 94), (.mv (.tmp 0)), none⟩, ⟨(some 95), (.mv (.tmp 0)), none⟩, ⟨(some 96), (.mv (.tmp 1)), none⟩, ⟨(some 97), (.mv (.tmp 0)), none⟩, ⟨(some 98), (.nilck (.tmp 97)), none⟩, ⟨(some 99), (.fad 8 (.tmp 98)), none⟩, ⟨(some 100), (.ld1 (.tmp 99)), none⟩, ⟨(some 101), (.call 121 [(.tmp 95), (.tmp 96), (.tmp 100)]), none⟩, ⟨(some 102), (.ext 0 (.tmp 101)), none⟩, ⟨(some 103), (.ext 1 (.tmp 101)), none⟩, ⟨(some 104), (.call 123 [(.tmp 94), (.tmp 102), (.tmp 103)]), none⟩])
    (.cond (.tmp 104)
    (.seq (.reg [⟨(some 105), (.mv (.tmp 0)), none⟩, ⟨(some 106), (.mv (.tmp 0)), none⟩, ⟨(some 107), (.nilck (.tmp 105)), none⟩, ⟨(some 108), (.fad 5 (.tmp 107)), none⟩, ⟨none, (.st1 (.tmp 108) (.const (.int .i64 7))), none⟩, ⟨(some 109), (.nilck (.tmp 106)), none⟩, ⟨(some 110), (.fad 9 (.tmp 109)), none⟩, ⟨none, (.st1 (.tmp 110) (.const (.int .i64 0))), none⟩]) .ret) .skip))
    (.reg [⟨(some 111), (.mv (.tmp 0)), none⟩, ⟨(some 112), (.call 122 [(.tmp 111), (.const (.int .i64 6)), (.const (.int .i64 9))]), none⟩]))
    (.seq (.reg [⟨(some 114), (.cmp .eql (.tmp 9) (.const (.int .i64 7))), none⟩, ⟨(some 113), (.mv (.tmp 114)), none⟩])
    (.cond (.tmp 113)
    (.seq (.draw (.take ⟨(some 115), (.mv (.tmp 1)), none⟩ (.take ⟨(some 116), (.mv (.tmp 0)), none⟩ (.take ⟨(some 117), (.nilck (.tmp 116)), none⟩ (.take ⟨(some 118), (.fad 3 (.tmp 117)), none⟩ (.take ⟨(some 119), (.ld1 (.tmp 118)), none⟩ (.take ⟨(some 120), (.mv (.tmp 0)), none⟩ (.take ⟨(some 121), (.nilck (.tmp 120)), none⟩ (.take ⟨(some 122), (.fad 0 (.tmp 121)), none⟩ (.take ⟨(some 123), (.ldn 3 (.tmp 122)), none⟩ (.take ⟨(some 124), (.mv (.tmp 0)), none⟩ (.take ⟨(some 125), (.nilck (.tmp 124)), none⟩ (.take ⟨(some 126), (.fad 8 (.tmp 125)), none⟩ (.take ⟨(some 127), (.ld1 (.tmp 126)), none⟩ (.take ⟨(some 128), (.mv (.tmp 0)), none⟩ (.take ⟨(some 129), (.nilck (.tmp 128)), none⟩ (.take ⟨(some 130), (.fad 9 (.tmp 129)), none⟩ (.take ⟨(some 131), (.ld1 (.tmp 130)), none⟩ (.alt false ⟨(some 132), (.pcall 76 [(.tmp 123), (.tmp 127), (.tmp 131)]), none⟩ (.alt true ⟨(some 133), (.call 75 [(.tmp 115), (.tmp 119), (.tmp 132), (.const (.int .u64 0))]), none⟩ .done .stop) .stop)))))))))))))))))))
    (.seq (.reg [⟨(some 134), (.mv (.tmp 0)), none⟩, ⟨(some 135), (.nilck (.tmp 134)), none⟩, ⟨(some 136), (.fad 9 (.tmp 135)), none⟩, ⟨(some 137), (.ld1 (.tmp 136)), none⟩, ⟨(some 138), (.ar .add (.tmp 137) (.const (.int .i64 1))), none⟩, ⟨(some 139), (.nilck (.tmp 134)), none⟩, ⟨(some 140), (.fad 9 (.tmp 139)), none⟩, ⟨none, (.st1 (.tmp 140) (.tmp 138)), none⟩])
    (.seq (.reg [⟨(some 141), (.mv (.tmp 0)), none⟩, ⟨(some 142), (.nilck (.tmp 141)), none⟩, ⟨(some 143), (.fad 9 (.tmp 142)), none⟩, ⟨(some 144), (.ld1 (.tmp 143)), none⟩, ⟨(some 145), (.cmp .eql (.tmp 144) (.const (.int .i64 16))), none⟩])
    (.cond (.tmp 145)
    (.reg [⟨(some 146), (.mv (.tmp 0)), none⟩, ⟨(some 147), (.nilck (.tmp 146)), none⟩, ⟨(some 148), (.fad 5 (.tmp 147)), none⟩, ⟨none, (.st1 (.tmp 148) (.const (.int .i64 8))), none⟩]) .skip))))
    (.seq (.draw (.take ⟨(some 10), (.mv (.tmp 1)), none⟩ (.take ⟨(some 11), (.mv (.tmp 0)), none⟩ (.take ⟨(some 12), (.nilck (.tmp 11)), none⟩ (.take ⟨(some 13), (.fad 3 (.tmp 12)), none⟩ (.take ⟨(some 14), (.ld1 (.tmp 13)), none⟩ (.take ⟨(some 15), (.mv (.tmp 0)), none⟩ (.take ⟨(some 16), (.nilck (.tmp 15)), none⟩ (.take ⟨(some 17), (.fad 0 (.tmp 16)), none⟩ (.take ⟨(some 18), (.ldn 3 (.tmp 17)), none⟩ (.take ⟨(some 19), (.mv (.tmp 0)), none⟩ (.take ⟨(some 20), (.nilck (.tmp 19)), none⟩ (.take ⟨(some 21), (.fad 8 (.tmp 20)), none⟩ (.take ⟨(some 22), (.ld1 (.tmp 21)), none⟩ (.alt false ⟨(some 23), (.pcall 68 [(.tmp 18), (.tmp 22)]), none⟩ (.alt true ⟨(some 24), (.call 75 [(.tmp 10), (.tmp 14), (.tmp 23), (.const (.int .u64 0))]), none⟩ .done .stop) .stop)))))))))))))))
    (.reg [⟨(some 25), (.mv (.tmp 0)), none⟩, ⟨(some 26), (.call 122 [(.tmp 25), (.const (.int .i64 6)), (.const (.int .i64 9))]), none⟩]))))))))))))))⟩ := by kernel_rfl

/-- (*allotment/adopt.Adopter).ways -/
theorem tr97 : trF Try.prog pures Try.f97 = some
  ⟨121, [],
    (.seq (.reg [⟨(some 6), (.mv (.tmp 0)), none⟩, ⟨(some 7), (.nilck (.tmp 6)), none⟩, ⟨(some 8), (.fad 5 (.tmp 7)), none⟩, ⟨(some 9), (.ld1 (.tmp 8)), none⟩])
    (.block 0
    (.seq (.reg [⟨(some 29), (.cmp .eql (.tmp 9) (.const (.int .i64 10))), none⟩, ⟨(some 28), (.mv (.tmp 29)), none⟩])
    (.cond (.tmp 28)
    (.seq (.reg [⟨(some 31), (.mv (.tmp 0)), none⟩, ⟨(some 32), (.mv (.tmp 1)), none⟩, ⟨(some 33), (.mv (.tmp 0)), none⟩, ⟨(some 34), (.nilck (.tmp 33)), none⟩, ⟨(some 35), (.fad 8 (.tmp 34)), none⟩, ⟨(some 36), (.ld1 (.tmp 35)), none⟩, ⟨(some 37), (.call 121 [(.tmp 31), (.tmp 32), (.tmp 36)]), none⟩, ⟨(some 30), (.mv (.tmp 37)), none⟩, ⟨(some 38), (.ext 0 (.tmp 30)), none⟩, ⟨(some 39), (.ext 1 (.tmp 30)), none⟩, ⟨(some 4), (.alc 103 (.agg #[(.int .i64 0), (.int .i64 0), (.int .i64 0)])), none⟩, ⟨none, (.stn 3 (.tmp 4) (.tmp 38)), none⟩, ⟨(some 5), (.mv (.tmp 39)), none⟩])
    (.seq (.seq
    (.reg [⟨(some 40), (.mv (.tmp 0)), none⟩, ⟨(some 41), (.ldn 3 (.tmp 4)), none⟩, ⟨(some 42), (.nilck (.tmp 40)), none⟩, ⟨(some 43), (.fad 10 (.tmp 42)), none⟩, ⟨none, (.stn 3 (.tmp 43) (.tmp 41)), none⟩])
    (.seq (.reg [⟨(some 44), (.mv (.tmp 5)), none⟩, ⟨(some 45), (.mv (.tmp 44)), none⟩, ⟨(some 46), (.fad 0 (.tmp 4)), (some (45, true))⟩, ⟨(some 47), (.ld1 (.tmp 46)), (some (45, true))⟩, ⟨(some 48), (.cmp .eql (.tmp 47) (.const (.int .i64 2))), (some (45, true))⟩, ⟨(some 49), (.pick (.tmp 45) (.tmp 48) (.const (.bool false))), none⟩])
    (.cond (.tmp 49)
    (.seq (.reg [⟨(some 50), (.mv (.tmp 0)), none⟩, ⟨(some 51), (.mv (.tmp 0)), none⟩, ⟨(some 52), (.nilck (.tmp 50)), none⟩, ⟨(some 53), (.fad 5 (.tmp 52)), none⟩, ⟨none, (.st1 (.tmp 53) (.const (.int .i64 11))), none⟩, ⟨(some 54), (.nilck (.tmp 51)), none⟩, ⟨(some 55), (.fad 9 (.tmp 54)), none⟩, ⟨none, (.st1 (.tmp 55) (.const (.int .i64 0))), none⟩]) .ret) .skip)))
    (.reg [⟨(some 56), (.mv (.tmp 0)), none⟩, ⟨(some 57), (.call 122 [(.tmp 56), (.const (.int .i64 10)), (.const (.int .i64 13))]), none⟩])))
    (.seq (.reg [⟨(some 59), (.cmp .eql (.tmp 9) (.const (.int .i64 11))), none⟩, ⟨(some 58), (.mv (.tmp 59)), none⟩])
    (.cond (.tmp 58)
    (.seq (.seq
    (.draw (.take ⟨(some 60), (.mv (.tmp 1)), none⟩ (.take ⟨(some 61), (.mv (.tmp 0)), none⟩ (.take ⟨(some 62), (.nilck (.tmp 61)), none⟩ (.take ⟨(some 63), (.fad 3 (.tmp 62)), none⟩ (.take ⟨(some 64), (.ld1 (.tmp 63)), none⟩ (.take ⟨(some 65), (.mv (.tmp 0)), none⟩ (.take ⟨(some 66), (.nilck (.tmp 65)), none⟩ (.take ⟨(some 67), (.fad 0 (.tmp 66)), none⟩ (.take ⟨(some 68), (.ldn 3 (.tmp 67)), none⟩ (.take ⟨(some 69), (.mv (.tmp 0)), none⟩ (.take ⟨(some 70), (.nilck (.tmp 69)), none⟩ (.take ⟨(some 71), (.fad 8 (.tmp 70)), none⟩ (.take ⟨(some 72), (.ld1 (.tmp 71)), none⟩ (.take ⟨(some 73), (.mv (.tmp 0)), none⟩ (.take ⟨(some 74), (.nilck (.tmp 73)), none⟩ (.take ⟨(some 75), (.fad 9 (.tmp 74)), none⟩ (.take ⟨(some 76), (.ld1 (.tmp 75)), none⟩ (.take ⟨(some 79), (.mv (.tmp 0)), none⟩ (.take ⟨(some 80), (.nilck (.tmp 79)), none⟩ (.take ⟨(some 81), (.fad 4 (.tmp 80)), none⟩ (.take ⟨(some 82), (.ld1 (.tmp 81)), none⟩ (.take ⟨(some 83), (.bld #[(.int .i64 0), (.int .i64 0)] [(0, (1, (.const (.int .i64 2)))), (1, (1, (.tmp 82)))]), none⟩ (.alt false ⟨(some 77), (.pcall 76 [(.tmp 68), (.tmp 72), (.tmp 76)]), none⟩ (.alt false ⟨(some 78), (.call 105 [(.tmp 60), (.tmp 64), (.tmp 77)]), none⟩ (.alt false ⟨(some 84), (.pcall 89 [(.tmp 83)]), none⟩ (.take ⟨(some 85), (.cmp .eql (.tmp 78) (.tmp 84)), none⟩ .done) .stop) .stop) .stop))))))))))))))))))))))))
    (.cond (.tmp 85)
    (.seq (.reg [⟨(some 86), (.mv (.tmp 0)), none⟩, ⟨(some 87), (.nilck (.tmp 86)), none⟩, ⟨(some 88), (.fad 5 (.tmp 87)), none⟩, ⟨none, (.st1 (.tmp 88) (.const (.int .i64 12))), none⟩]) .ret) .skip))
    (.reg [⟨(some 89), (.mv (.tmp 0)), none⟩, ⟨(some 90), (.call 124 [(.tmp 89)]), none⟩]))
    (.seq (.reg [⟨(some 92), (.cmp .eql (.tmp 9) (.const (.int .i64 12))), none⟩, ⟨(some 91), (.mv (.tmp 92)), none⟩])
    (.cond (.tmp 91)
    (.seq (.draw (.take ⟨(some 93), (.mv (.tmp 1)), none⟩ (.take ⟨(some 94), (.mv (.tmp 0)), none⟩ (.take ⟨(some 95), (.nilck (.tmp 94)), none⟩ (.take ⟨(some 96), (.fad 3 (.tmp 95)), none⟩ (.take ⟨(some 97), (.ld1 (.tmp 96)), none⟩ (.take ⟨(some 98), (.mv (.tmp 0)), none⟩ (.take ⟨(some 99), (.nilck (.tmp 98)), none⟩ (.take ⟨(some 100), (.fad 0 (.tmp 99)), none⟩ (.take ⟨(some 101), (.ldn 3 (.tmp 100)), none⟩ (.take ⟨(some 102), (.mv (.tmp 0)), none⟩ (.take ⟨(some 103), (.nilck (.tmp 102)), none⟩ (.take ⟨(some 104), (.fad 8 (.tmp 103)), none⟩ (.take ⟨(some 105), (.ld1 (.tmp 104)), none⟩ (.take ⟨(some 106), (.mv (.tmp 0)), none⟩ (.take ⟨(some 107), (.nilck (.tmp 106)), none⟩ (.take ⟨(some 108), (.fad 9 (.tmp 107)), none⟩ (.take ⟨(some 109), (.ld1 (.tmp 108)), none⟩ (.take ⟨(some 111), (.mv (.tmp 0)), none⟩ (.take ⟨(some 112), (.nilck (.tmp 111)), none⟩ (.take ⟨(some 113), (.fad 10 (.tmp 112)), none⟩ (.take ⟨(some 114), (.fad 1 (.tmp 113)), none⟩ (.take ⟨(some 115), (.ld1 (.tmp 114)), none⟩ (.take ⟨(some 116), (.bld #[(.int .i64 0), (.int .i64 0)] [(0, (1, (.const (.int .i64 1)))), (1, (1, (.tmp 115)))]), none⟩ (.alt false ⟨(some 110), (.pcall 76 [(.tmp 101), (.tmp 105), (.tmp 109)]), none⟩ (.alt false ⟨(some 117), (.pcall 89 [(.tmp 116)]), none⟩ (.alt true ⟨(some 118), (.call 75 [(.tmp 93), (.tmp 97), (.tmp 110), (.tmp 117)]), none⟩ .done .stop) .stop) .stop)))))))))))))))))))))))))
    (.reg [⟨(some 119), (.mv (.tmp 0)), none⟩, ⟨(some 120), (.call 124 [(.tmp 119)]), none⟩]))
    (.seq (.draw (.take ⟨(some 10), (.mv (.tmp 1)), none⟩ (.take ⟨(some 11), (.mv (.tmp 0)), none⟩ (.take ⟨(some 12), (.nilck (.tmp 11)), none⟩ (.take ⟨(some 13), (.fad 3 (.tmp 12)), none⟩ (.take ⟨(some 14), (.ld1 (.tmp 13)), none⟩ (.take ⟨(some 15), (.mv (.tmp 0)), none⟩ (.take ⟨(some 16), (.nilck (.tmp 15)), none⟩ (.take ⟨(some 17), (.fad 0 (.tmp 16)), none⟩ (.take ⟨(some 18), (.ldn 3 (.tmp 17)), none⟩ (.take ⟨(some 19), (.mv (.tmp 0)), none⟩ (.take ⟨(some 20), (.nilck (.tmp 19)), none⟩ (.take ⟨(some 21), (.fad 4 (.tmp 20)), none⟩ (.take ⟨(some 22), (.ld1 (.tmp 21)), none⟩ (.alt false ⟨(some 23), (.pcall 65 [(.tmp 18), (.tmp 22)]), none⟩ (.alt false ⟨(some 24), (.pcall 120 [(.const (.int .i64 4)), (.const (.int .i64 0))]), none⟩ (.alt true ⟨(some 25), (.call 75 [(.tmp 10), (.tmp 14), (.tmp 23), (.tmp 24)]), none⟩ .done .stop) .stop) .stop)))))))))))))))
    (.reg [⟨(some 26), (.mv (.tmp 0)), none⟩, ⟨(some 27), (.call 93 [(.tmp 26), (.const (.int .i64 0))]), none⟩]))))))))))⟩ := by kernel_rfl

end Go.Proofs.Ytfopnendmcpglaa
