/-
  The compact code of functions of this seat, as translated from the model: each translation holds by reckoning. Conditions: none.
-/
import Derived.Test.YtfdhilnaagpecaaGreatCode
set_option maxRecDepth 100000
namespace Go.Proofs.YtfdhilnaagpecaaGreat
open Go Go.Ev

/-- allotment/run.New -/
theorem tr30 : trF Tryz.prog pures Tryz.f30 = some
  ⟨33, [(.t 6)],
    (.seq (.reg [⟨(some 3), (.box 26 (.tmp 0)), none⟩, ⟨(some 6), (.mv (.const (.pointer none))), none⟩])
    (.seq (.reg [⟨(some 8), (.ldn 3 (.tmp 3)), none⟩, ⟨(some 9), (.mv (.tmp 1)), none⟩, ⟨(some 10), (.pcall 61 [(.tmp 8), (.tmp 9)]), none⟩, ⟨(some 11), (.cmp .geq (.tmp 10) (.const (.int .i64 0))), none⟩, ⟨(some 12), (.mv (.tmp 11)), none⟩, ⟨(some 13), (.mv (.tmp 2)), (some (12, true))⟩, ⟨(some 14), (.cmp .geq (.tmp 13) (.const (.int .i64 1))), (some (12, true))⟩, ⟨(some 15), (.pick (.tmp 12) (.tmp 14) (.const (.bool false))), none⟩, ⟨(some 16), (.mv (.tmp 15)), none⟩, ⟨(some 17), (.mv (.tmp 2)), (some (16, true))⟩, ⟨(some 18), (.cmp .leq (.tmp 17) (.const (.int .i64 8))), (some (16, true))⟩, ⟨(some 19), (.pick (.tmp 16) (.tmp 18) (.const (.bool false))), none⟩, ⟨(some 20), (.mv (.tmp 19)), none⟩, ⟨(some 21), (.mv (.tmp 2)), (some (20, true))⟩, ⟨(some 22), (.fad 0 (.tmp 3)), (some (20, true))⟩, ⟨(some 23), (.ld1 (.tmp 22)), (some (20, true))⟩, ⟨(some 24), (.cmp .leq (.tmp 21) (.tmp 23)), (some (20, true))⟩, ⟨(some 25), (.pick (.tmp 20) (.tmp 24) (.const (.bool false))), none⟩, ⟨(some 7), (.mv (.tmp 25)), none⟩])
    (.seq (.reg [⟨(some 26), (.ldn 3 (.tmp 3)), none⟩, ⟨(some 27), (.mv (.tmp 1)), none⟩, ⟨(some 28), (.mv (.tmp 2)), none⟩, ⟨(some 29), (.mv (.tmp 7)), none⟩, ⟨(some 30), (.nt (.tmp 29)), none⟩, ⟨(some 31), (.bld #[(.int .i64 0), (.int .i64 0), (.int .i64 0), (.int .i64 0), (.int .i64 0), (.int .i64 0), (.int .i64 0), (.int .i64 0), (.int .i64 0), (.pointer none), (.bool false), (.bool false)] [(0, (3, (.tmp 26))), (3, (1, (.tmp 27))), (4, (1, (.tmp 28))), (11, (1, (.tmp 30)))]), none⟩, ⟨(some 32), (.box 117 (.tmp 31)), none⟩, ⟨(some 6), (.mv (.tmp 32)), none⟩]) .ret)))⟩ := by kernel_rfl

/-- (*allotment/run.Runner).Found -/
theorem tr32 : trF Tryz.prog pures Tryz.f32 = some
  ⟨17, [(.t 2), (.t 3)],
    (.seq (.reg [⟨(some 2), (.mv (.const (.int .i64 0))), none⟩, ⟨(some 3), (.mv (.const (.bool false))), none⟩])
    (.seq (.seq
    (.reg [⟨(some 4), (.mv (.tmp 0)), none⟩, ⟨(some 5), (.pnil false (.tmp 4)), none⟩, ⟨(some 6), (.mv (.tmp 5)), none⟩, ⟨(some 7), (.mv (.tmp 0)), (some (6, false))⟩, ⟨(some 8), (.nilck (.tmp 7)), (some (6, false))⟩, ⟨(some 9), (.fad 10 (.tmp 8)), (some (6, false))⟩, ⟨(some 10), (.ld1 (.tmp 9)), (some (6, false))⟩, ⟨(some 11), (.nt (.tmp 10)), (some (6, false))⟩, ⟨(some 12), (.pick (.tmp 6) (.const (.bool true)) (.tmp 11)), none⟩])
    (.cond (.tmp 12)
    (.seq (.reg [⟨(some 2), (.mv (.const (.int .i64 0))), none⟩, ⟨(some 3), (.mv (.const (.bool false))), none⟩]) .ret) .skip))
    (.seq (.reg [⟨(some 13), (.mv (.tmp 0)), none⟩, ⟨(some 14), (.nilck (.tmp 13)), none⟩, ⟨(some 15), (.fad 5 (.tmp 14)), none⟩, ⟨(some 16), (.ld1 (.tmp 15)), none⟩, ⟨(some 2), (.mv (.tmp 16)), none⟩, ⟨(some 3), (.mv (.const (.bool true))), none⟩]) .ret)))⟩ := by kernel_rfl

/-- (*allotment/run.Runner).Done -/
theorem tr39 : trF Tryz.prog pures Tryz.f39 = some
  ⟨11, [(.t 2)],
    (.seq (.reg [⟨(some 2), (.mv (.const (.bool false))), none⟩])
    (.seq (.reg [⟨(some 3), (.mv (.tmp 0)), none⟩, ⟨(some 4), (.pnil true (.tmp 3)), none⟩, ⟨(some 5), (.mv (.tmp 4)), none⟩, ⟨(some 6), (.mv (.tmp 0)), (some (5, true))⟩, ⟨(some 7), (.nilck (.tmp 6)), (some (5, true))⟩, ⟨(some 8), (.fad 11 (.tmp 7)), (some (5, true))⟩, ⟨(some 9), (.ld1 (.tmp 8)), (some (5, true))⟩, ⟨(some 10), (.pick (.tmp 5) (.tmp 9) (.const (.bool false))), none⟩, ⟨(some 2), (.mv (.tmp 10)), none⟩]) .ret))⟩ := by kernel_rfl

/-- (*allotment/run.Runner).Step -/
theorem tr42 : trF Tryz.prog pures Tryz.f42 = some
  ⟨145, [],
    (.seq (.seq
    (.reg [⟨(some 4), (.mv (.tmp 0)), none⟩, ⟨(some 5), (.pnil false (.tmp 4)), none⟩, ⟨(some 6), (.mv (.tmp 5)), none⟩, ⟨(some 7), (.mv (.tmp 0)), (some (6, false))⟩, ⟨(some 8), (.nilck (.tmp 7)), (some (6, false))⟩, ⟨(some 9), (.fad 11 (.tmp 8)), (some (6, false))⟩, ⟨(some 10), (.ld1 (.tmp 9)), (some (6, false))⟩, ⟨(some 11), (.pick (.tmp 6) (.const (.bool true)) (.tmp 10)), none⟩])
    (.cond (.tmp 11) .ret .skip))
    (.seq (.reg [⟨(some 12), (.mv (.tmp 0)), none⟩, ⟨(some 13), (.nilck (.tmp 12)), none⟩, ⟨(some 14), (.fad 8 (.tmp 13)), none⟩, ⟨(some 15), (.ld1 (.tmp 14)), none⟩])
    (.block 0
    (.seq (.reg [⟨(some 17), (.cmp .eql (.tmp 15) (.const (.int .i64 0))), none⟩, ⟨(some 16), (.mv (.tmp 17)), none⟩])
    (.cond (.tmp 16)
    (.reg [⟨(some 18), (.mv (.tmp 0)), none⟩, ⟨(some 19), (.mv (.tmp 1)), none⟩, ⟨(some 20), (.call 74 [(.tmp 18), (.tmp 19)]), none⟩])
    (.seq (.reg [⟨(some 22), (.cmp .eql (.tmp 15) (.const (.int .i64 1))), none⟩, ⟨(some 21), (.mv (.tmp 22)), none⟩])
    (.cond (.tmp 21)
    (.seq (.draw (.take ⟨(some 23), (.mv (.tmp 1)), none⟩ (.take ⟨(some 24), (.mv (.tmp 0)), none⟩ (.take ⟨(some 25), (.nilck (.tmp 24)), none⟩ (.take ⟨(some 26), (.fad 3 (.tmp 25)), none⟩ (.take ⟨(some 27), (.ld1 (.tmp 26)), none⟩ (.take ⟨(some 28), (.mv (.tmp 0)), none⟩ (.take ⟨(some 29), (.nilck (.tmp 28)), none⟩ (.take ⟨(some 30), (.fad 0 (.tmp 29)), none⟩ (.take ⟨(some 31), (.ldn 3 (.tmp 30)), none⟩ (.take ⟨(some 32), (.mv (.tmp 0)), none⟩ (.take ⟨(some 33), (.nilck (.tmp 32)), none⟩ (.take ⟨(some 34), (.fad 6 (.tmp 33)), none⟩ (.take ⟨(some 35), (.ld1 (.tmp 34)), none⟩ (.take ⟨(some 37), (.mv (.tmp 0)), none⟩ (.take ⟨(some 38), (.nilck (.tmp 37)), none⟩ (.take ⟨(some 39), (.fad 3 (.tmp 38)), none⟩ (.take ⟨(some 40), (.ld1 (.tmp 39)), none⟩ (.take ⟨(some 41), (.bld #[(.int .i64 0), (.int .i64 0), (.int .i64 0)] [(0, (1, (.const (.int .i64 1)))), (1, (1, (.tmp 40)))]), none⟩ (.alt false ⟨(some 36), (.pcall 34 [(.tmp 31), (.tmp 35)]), none⟩ (.alt false ⟨(some 42), (.pcall 35 [(.tmp 41)]), none⟩ (.alt true ⟨(some 43), (.call 75 [(.tmp 23), (.tmp 27), (.tmp 36), (.const (.int .u64 0)), (.tmp 42)]), none⟩ .done .stop) .stop) .stop))))))))))))))))))))
    (.cond (.tmp 43)
    (.reg [⟨(some 44), (.mv (.tmp 0)), none⟩, ⟨(some 45), (.call 76 [(.tmp 44)]), none⟩])
    (.reg [⟨(some 46), (.mv (.tmp 0)), none⟩, ⟨(some 47), (.call 77 [(.tmp 46)]), none⟩])))
    (.seq (.reg [⟨(some 49), (.cmp .eql (.tmp 15) (.const (.int .i64 2))), none⟩, ⟨(some 48), (.mv (.tmp 49)), none⟩])
    (.cond (.tmp 48)
    (.seq (.reg [⟨(some 50), (.mv (.tmp 0)), none⟩, ⟨(some 51), (.nilck (.tmp 50)), none⟩, ⟨(some 52), (.fad 9 (.tmp 51)), none⟩, ⟨(some 53), (.ld1 (.tmp 52)), none⟩, ⟨(some 54), (.mv (.tmp 1)), none⟩, ⟨(some 55), (.call 78 [(.tmp 53), (.tmp 54)]), none⟩])
    (.seq (.reg [⟨(some 56), (.mv (.tmp 0)), none⟩, ⟨(some 57), (.nilck (.tmp 56)), none⟩, ⟨(some 58), (.fad 9 (.tmp 57)), none⟩, ⟨(some 59), (.ld1 (.tmp 58)), none⟩, ⟨(some 60), (.call 79 [(.tmp 59)]), none⟩])
    (.cond (.tmp 60)
    (.reg [⟨(some 61), (.mv (.tmp 0)), none⟩, ⟨(some 62), (.mv (.tmp 0)), none⟩, ⟨(some 63), (.nilck (.tmp 61)), none⟩, ⟨(some 64), (.fad 8 (.tmp 63)), none⟩, ⟨none, (.st1 (.tmp 64) (.const (.int .i64 3))), none⟩, ⟨(some 65), (.nilck (.tmp 62)), none⟩, ⟨(some 66), (.fad 7 (.tmp 65)), none⟩, ⟨none, (.st1 (.tmp 66) (.const (.int .i64 0))), none⟩])
    (.seq (.reg [⟨(some 67), (.mv (.tmp 0)), none⟩, ⟨(some 68), (.nilck (.tmp 67)), none⟩, ⟨(some 69), (.fad 9 (.tmp 68)), none⟩, ⟨(some 70), (.ld1 (.tmp 69)), none⟩, ⟨(some 71), (.call 80 [(.tmp 70)]), none⟩])
    (.cond (.tmp 71)
    (.reg [⟨(some 72), (.mv (.tmp 0)), none⟩, ⟨(some 73), (.call 77 [(.tmp 72)]), none⟩]) .skip)))))
    (.seq (.reg [⟨(some 75), (.cmp .eql (.tmp 15) (.const (.int .i64 3))), none⟩, ⟨(some 74), (.mv (.tmp 75)), none⟩])
    (.cond (.tmp 74)
    (.seq (.draw (.take ⟨(some 76), (.mv (.tmp 1)), none⟩ (.take ⟨(some 77), (.mv (.tmp 0)), none⟩ (.take ⟨(some 78), (.nilck (.tmp 77)), none⟩ (.take ⟨(some 79), (.fad 3 (.tmp 78)), none⟩ (.take ⟨(some 80), (.ld1 (.tmp 79)), none⟩ (.take ⟨(some 81), (.mv (.tmp 0)), none⟩ (.take ⟨(some 82), (.nilck (.tmp 81)), none⟩ (.take ⟨(some 83), (.fad 0 (.tmp 82)), none⟩ (.take ⟨(some 84), (.ldn 3 (.tmp 83)), none⟩ (.take ⟨(some 85), (.mv (.tmp 0)), none⟩ (.take ⟨(some 86), (.nilck (.tmp 85)), none⟩ (.take ⟨(some 87), (.fad 6 (.tmp 86)), none⟩ (.take ⟨(some 88), (.ld1 (.tmp 87)), none⟩ (.take ⟨(some 89), (.mv (.tmp 0)), none⟩ (.take ⟨(some 90), (.nilck (.tmp 89)), none⟩ (.take ⟨(some 91), (.fad 7 (.tmp 90)), none⟩ (.take ⟨(some 92), (.ld1 (.tmp 91)), none⟩ (.alt false ⟨(some 93), (.pcall 36 [(.tmp 84), (.tmp 88), (.tmp 92)]), none⟩ (.alt true ⟨(some 94), (.call 33 [(.tmp 76), (.tmp 80), (.tmp 93), (.const (.int .u64 0))]), none⟩ .done .stop) .stop)))))))))))))))))))
    (.seq (.reg [⟨(some 95), (.mv (.tmp 0)), none⟩, ⟨(some 96), (.nilck (.tmp 95)), none⟩, ⟨(some 97), (.fad 7 (.tmp 96)), none⟩, ⟨(some 98), (.ld1 (.tmp 97)), none⟩, ⟨(some 99), (.ar .add (.tmp 98) (.const (.int .i64 1))), none⟩, ⟨(some 100), (.nilck (.tmp 95)), none⟩, ⟨(some 101), (.fad 7 (.tmp 100)), none⟩, ⟨none, (.st1 (.tmp 101) (.tmp 99)), none⟩])
    (.seq (.reg [⟨(some 102), (.mv (.tmp 0)), none⟩, ⟨(some 103), (.nilck (.tmp 102)), none⟩, ⟨(some 104), (.fad 7 (.tmp 103)), none⟩, ⟨(some 105), (.ld1 (.tmp 104)), none⟩, ⟨(some 106), (.cmp .eql (.tmp 105) (.const (.int .i64 16))), none⟩])
    (.cond (.tmp 106)
    (.reg [⟨(some 107), (.mv (.tmp 0)), none⟩, ⟨(some 108), (.call 76 [(.tmp 107)]), none⟩]) .skip))))
    (.seq (.reg [⟨(some 110), (.cmp .eql (.tmp 15) (.const (.int .i64 4))), none⟩, ⟨(some 109), (.mv (.tmp 110)), none⟩])
    (.cond (.tmp 109)
    (.seq (.reg [⟨(some 111), (.mv (.tmp 0)), none⟩, ⟨(some 112), (.mv (.tmp 1)), none⟩, ⟨(some 113), (.mv (.tmp 0)), none⟩, ⟨(some 114), (.nilck (.tmp 113)), none⟩, ⟨(some 115), (.fad 7 (.tmp 114)), none⟩, ⟨(some 116), (.ld1 (.tmp 115)), none⟩, ⟨(some 117), (.ar .sub (.tmp 116) (.const (.int .i64 1))), none⟩, ⟨(some 118), (.bld #[(.int .i64 0), (.int .i64 0), (.int .i64 0)] []), none⟩, ⟨(some 119), (.call 81 [(.tmp 111), (.tmp 112), (.tmp 117), (.tmp 118)]), none⟩])
    (.seq (.reg [⟨(some 120), (.mv (.tmp 0)), none⟩, ⟨(some 121), (.nilck (.tmp 120)), none⟩, ⟨(some 122), (.fad 7 (.tmp 121)), none⟩, ⟨(some 123), (.ld1 (.tmp 122)), none⟩, ⟨(some 124), (.ar .sub (.tmp 123) (.const (.int .i64 1))), none⟩, ⟨(some 125), (.nilck (.tmp 120)), none⟩, ⟨(some 126), (.fad 7 (.tmp 125)), none⟩, ⟨none, (.st1 (.tmp 126) (.tmp 124)), none⟩])
    (.reg [⟨(some 127), (.mv (.tmp 0)), none⟩, ⟨(some 128), (.call 82 [(.tmp 127)]), none⟩])))
    (.seq (.reg [⟨(some 130), (.cmp .eql (.tmp 15) (.const (.int .i64 5))), none⟩, ⟨(some 129), (.mv (.tmp 130)), none⟩])
    (.cond (.tmp 129)
    (.seq (.draw (.take ⟨(some 131), (.mv (.tmp 0)), none⟩ (.take ⟨(some 132), (.mv (.tmp 1)), none⟩ (.take ⟨(some 133), (.mv (.tmp 0)), none⟩ (.take ⟨(some 134), (.nilck (.tmp 133)), none⟩ (.take ⟨(some 135), (.fad 7 (.tmp 134)), none⟩ (.take ⟨(some 136), (.ld1 (.tmp 135)), none⟩ (.take ⟨(some 137), (.mv (.tmp 0)), none⟩ (.take ⟨(some 138), (.nilck (.tmp 137)), none⟩ (.take ⟨(some 139), (.fad 5 (.tmp 138)), none⟩ (.take ⟨(some 140), (.ld1 (.tmp 139)), none⟩ (.take ⟨(some 141), (.bld #[(.int .i64 0), (.int .i64 0), (.int .i64 0)] [(0, (1, (.const (.int .i64 4)))), (1, (1, (.tmp 140)))]), none⟩ (.alt true ⟨(some 142), (.call 81 [(.tmp 131), (.tmp 132), (.tmp 136), (.tmp 141)]), none⟩ .done .stop)))))))))))))
    (.reg [⟨(some 143), (.mv (.tmp 0)), none⟩, ⟨(some 144), (.call 83 [(.tmp 143)]), none⟩])) .skip)))))))))))))))⟩ := by kernel_rfl

/-- (*allotment/run.Runner).look -/
theorem tr74 : trF Tryz.prog pures Tryz.f74 = some
  ⟨73, [],
    (.seq (.draw (.take ⟨(some 7), (.mv (.tmp 0)), none⟩ (.take ⟨(some 8), (.nilck (.tmp 7)), none⟩ (.take ⟨(some 9), (.fad 0 (.tmp 8)), none⟩ (.take ⟨(some 10), (.ldn 3 (.tmp 9)), none⟩ (.take ⟨(some 11), (.mv (.tmp 0)), none⟩ (.take ⟨(some 12), (.nilck (.tmp 11)), none⟩ (.take ⟨(some 13), (.fad 6 (.tmp 12)), none⟩ (.take ⟨(some 14), (.ld1 (.tmp 13)), none⟩ (.take ⟨(some 15), (.mv (.tmp 1)), none⟩ (.take ⟨(some 16), (.mv (.tmp 0)), none⟩ (.take ⟨(some 17), (.nilck (.tmp 16)), none⟩ (.take ⟨(some 18), (.fad 3 (.tmp 17)), none⟩ (.take ⟨(some 19), (.ld1 (.tmp 18)), none⟩ (.take ⟨(some 20), (.mv (.tmp 0)), none⟩ (.take ⟨(some 21), (.nilck (.tmp 20)), none⟩ (.take ⟨(some 22), (.fad 0 (.tmp 21)), none⟩ (.take ⟨(some 23), (.ldn 3 (.tmp 22)), none⟩ (.take ⟨(some 24), (.mv (.tmp 0)), none⟩ (.take ⟨(some 25), (.nilck (.tmp 24)), none⟩ (.take ⟨(some 26), (.fad 6 (.tmp 25)), none⟩ (.take ⟨(some 27), (.ld1 (.tmp 26)), none⟩ (.alt false ⟨(some 28), (.pcall 34 [(.tmp 23), (.tmp 27)]), none⟩ (.alt false ⟨(some 29), (.call 71 [(.tmp 15), (.tmp 19), (.tmp 28)]), none⟩ (.alt false ⟨(some 30), (.pcall 69 [(.tmp 10), (.tmp 14), (.tmp 29)]), none⟩ (.take ⟨(some 6), (.mv (.tmp 30)), none⟩ (.take ⟨(some 31), (.ext 0 (.tmp 6)), none⟩ (.take ⟨(some 32), (.ext 1 (.tmp 6)), none⟩ (.alt false ⟨(some 4), (.alc 82 (.agg #[(.int .i64 0), (.int .i64 0), (.int .i64 0)])), none⟩ (.alt false ⟨none, (.stn 3 (.tmp 4) (.tmp 31)), none⟩ (.take ⟨(some 5), (.mv (.tmp 32)), none⟩ .done) .stop) .stop)))) (.alt false ⟨(some 4), (.alc 82 (.agg #[(.int .i64 0), (.int .i64 0), (.int .i64 0)])), none⟩ (.alt false ⟨(some 30), (.pcall 69 [(.tmp 10), (.tmp 14), (.tmp 29)]), none⟩ (.take ⟨(some 6), (.mv (.tmp 30)), none⟩ (.take ⟨(some 31), (.ext 0 (.tmp 6)), none⟩ (.take ⟨(some 32), (.ext 1 (.tmp 6)), none⟩ (.alt false ⟨none, (.stn 3 (.tmp 4) (.tmp 31)), none⟩ (.take ⟨(some 5), (.mv (.tmp 32)), none⟩ .done) .stop)))) .stop) .stop)) (.alt false ⟨(some 4), (.alc 82 (.agg #[(.int .i64 0), (.int .i64 0), (.int .i64 0)])), none⟩ (.alt false ⟨(some 29), (.call 71 [(.tmp 15), (.tmp 19), (.tmp 28)]), none⟩ (.alt false ⟨(some 30), (.pcall 69 [(.tmp 10), (.tmp 14), (.tmp 29)]), none⟩ (.take ⟨(some 6), (.mv (.tmp 30)), none⟩ (.take ⟨(some 31), (.ext 0 (.tmp 6)), none⟩ (.take ⟨(some 32), (.ext 1 (.tmp 6)), none⟩ (.alt false ⟨none, (.stn 3 (.tmp 4) (.tmp 31)), none⟩ (.take ⟨(some 5), (.mv (.tmp 32)), none⟩ .done) .stop)))) .stop) .stop) .stop)) (.alt false ⟨(some 4), (.alc 82 (.agg #[(.int .i64 0), (.int .i64 0), (.int .i64 0)])), none⟩ (.alt false ⟨(some 28), (.pcall 34 [(.tmp 23), (.tmp 27)]), none⟩ (.alt false ⟨(some 29), (.call 71 [(.tmp 15), (.tmp 19), (.tmp 28)]), none⟩ (.alt false ⟨(some 30), (.pcall 69 [(.tmp 10), (.tmp 14), (.tmp 29)]), none⟩ (.take ⟨(some 6), (.mv (.tmp 30)), none⟩ (.take ⟨(some 31), (.ext 0 (.tmp 6)), none⟩ (.take ⟨(some 32), (.ext 1 (.tmp 6)), none⟩ (.alt false ⟨none, (.stn 3 (.tmp 4) (.tmp 31)), none⟩ (.take ⟨(some 5), (.mv (.tmp 32)), none⟩ .done) .stop)))) .stop) .stop) .stop) .stop))))))))))))))))))))))))
    (.block 0
    (.seq (.reg [⟨(some 36), (.mv (.tmp 5)), none⟩, ⟨(some 37), (.mv (.tmp 36)), none⟩, ⟨(some 38), (.fad 0 (.tmp 4)), (some (37, true))⟩, ⟨(some 39), (.ld1 (.tmp 38)), (some (37, true))⟩, ⟨(some 40), (.cmp .eql (.tmp 39) (.const (.int .i64 0))), (some (37, true))⟩, ⟨(some 41), (.pick (.tmp 37) (.tmp 40) (.const (.bool false))), none⟩, ⟨(some 35), (.mv (.tmp 41)), none⟩])
    (.cond (.tmp 35)
    (.reg [⟨(some 42), (.mv (.tmp 0)), none⟩, ⟨(some 43), (.nilck (.tmp 42)), none⟩, ⟨(some 44), (.fad 8 (.tmp 43)), none⟩, ⟨none, (.st1 (.tmp 44) (.const (.int .i64 1))), none⟩])
    (.seq (.reg [⟨(some 46), (.mv (.tmp 5)), none⟩, ⟨(some 47), (.mv (.tmp 46)), none⟩, ⟨(some 48), (.fad 0 (.tmp 4)), (some (47, true))⟩, ⟨(some 49), (.ld1 (.tmp 48)), (some (47, true))⟩, ⟨(some 50), (.cmp .eql (.tmp 49) (.const (.int .i64 2))), (some (47, true))⟩, ⟨(some 51), (.pick (.tmp 47) (.tmp 50) (.const (.bool false))), none⟩, ⟨(some 45), (.mv (.tmp 51)), none⟩])
    (.cond (.tmp 45)
    (.draw (.take ⟨(some 52), (.mv (.tmp 0)), none⟩ (.take ⟨(some 53), (.mv (.tmp 0)), none⟩ (.take ⟨(some 54), (.mv (.tmp 0)), none⟩ (.take ⟨(some 55), (.nilck (.tmp 54)), none⟩ (.take ⟨(some 56), (.fad 0 (.tmp 55)), none⟩ (.take ⟨(some 57), (.ldn 3 (.tmp 56)), none⟩ (.take ⟨(some 58), (.mv (.tmp 0)), none⟩ (.take ⟨(some 59), (.nilck (.tmp 58)), none⟩ (.take ⟨(some 60), (.fad 3 (.tmp 59)), none⟩ (.take ⟨(some 61), (.ld1 (.tmp 60)), none⟩ (.take ⟨(some 62), (.mv (.tmp 0)), none⟩ (.take ⟨(some 63), (.nilck (.tmp 62)), none⟩ (.take ⟨(some 64), (.fad 6 (.tmp 63)), none⟩ (.take ⟨(some 65), (.ld1 (.tmp 64)), none⟩ (.take ⟨(some 66), (.fad 1 (.tmp 4)), none⟩ (.take ⟨(some 67), (.ld1 (.tmp 66)), none⟩ (.alt false ⟨(some 68), (.call 72 [(.tmp 57), (.tmp 61), (.tmp 65), (.tmp 67)]), none⟩ (.take ⟨(some 69), (.nilck (.tmp 52)), none⟩ (.take ⟨(some 70), (.fad 8 (.tmp 69)), none⟩ (.alt false ⟨none, (.st1 (.tmp 70) (.const (.int .i64 2))), none⟩ (.take ⟨(some 71), (.nilck (.tmp 53)), none⟩ (.take ⟨(some 72), (.fad 9 (.tmp 71)), none⟩ (.alt true ⟨none, (.st1 (.tmp 72) (.tmp 68)), none⟩ .done .stop))) .stop))) .stop))))))))))))))))))
    (.reg [⟨(some 33), (.mv (.tmp 0)), none⟩, ⟨(some 34), (.call 77 [(.tmp 33)]), none⟩])))))))⟩ := by kernel_rfl

/-- (*allotment/run.Runner).own -/
theorem tr76 : trF Tryz.prog pures Tryz.f76 = some
  ⟨38, [],
    (.seq (.reg [⟨(some 2), (.mv (.tmp 0)), none⟩, ⟨(some 3), (.nilck (.tmp 2)), none⟩, ⟨(some 4), (.fad 6 (.tmp 3)), none⟩, ⟨(some 5), (.ld1 (.tmp 4)), none⟩, ⟨(some 6), (.ar .add (.tmp 5) (.const (.int .i64 1))), none⟩, ⟨(some 7), (.nilck (.tmp 2)), none⟩, ⟨(some 8), (.fad 6 (.tmp 7)), none⟩, ⟨none, (.st1 (.tmp 8) (.tmp 6)), none⟩])
    (.seq (.reg [⟨(some 9), (.mv (.tmp 0)), none⟩, ⟨(some 10), (.nilck (.tmp 9)), none⟩, ⟨(some 11), (.fad 8 (.tmp 10)), none⟩, ⟨none, (.st1 (.tmp 11) (.const (.int .i64 0))), none⟩])
    (.seq (.reg [⟨(some 12), (.mv (.tmp 0)), none⟩, ⟨(some 13), (.nilck (.tmp 12)), none⟩, ⟨(some 14), (.fad 6 (.tmp 13)), none⟩, ⟨(some 15), (.ld1 (.tmp 14)), none⟩, ⟨(some 16), (.mv (.tmp 0)), none⟩, ⟨(some 17), (.nilck (.tmp 16)), none⟩, ⟨(some 18), (.fad 5 (.tmp 17)), none⟩, ⟨(some 19), (.ld1 (.tmp 18)), none⟩, ⟨(some 20), (.mv (.tmp 0)), none⟩, ⟨(some 21), (.nilck (.tmp 20)), none⟩, ⟨(some 22), (.fad 4 (.tmp 21)), none⟩, ⟨(some 23), (.ld1 (.tmp 22)), none⟩, ⟨(some 24), (.ar .add (.tmp 19) (.tmp 23)), none⟩, ⟨(some 25), (.cmp .eql (.tmp 15) (.tmp 24)), none⟩])
    (.cond (.tmp 25)
    (.seq (.reg [⟨(some 26), (.mv (.tmp 0)), none⟩, ⟨(some 27), (.mv (.tmp 0)), none⟩, ⟨(some 28), (.mv (.tmp 0)), none⟩, ⟨(some 29), (.nilck (.tmp 28)), none⟩, ⟨(some 30), (.fad 5 (.tmp 29)), none⟩, ⟨(some 31), (.ld1 (.tmp 30)), none⟩, ⟨(some 32), (.nilck (.tmp 26)), none⟩, ⟨(some 33), (.fad 8 (.tmp 32)), none⟩, ⟨none, (.st1 (.tmp 33) (.const (.int .i64 5))), none⟩, ⟨(some 34), (.nilck (.tmp 27)), none⟩, ⟨(some 35), (.fad 7 (.tmp 34)), none⟩, ⟨none, (.st1 (.tmp 35) (.tmp 31)), none⟩])
    (.reg [⟨(some 36), (.mv (.tmp 0)), none⟩, ⟨(some 37), (.call 83 [(.tmp 36)]), none⟩])) .skip))))⟩ := by kernel_rfl

/-- (*allotment/run.Runner).miss -/
theorem tr77 : trF Tryz.prog pures Tryz.f77 = some
  ⟨14, [],
    (.seq (.reg [⟨(some 2), (.mv (.tmp 0)), none⟩, ⟨(some 3), (.mv (.tmp 0)), none⟩, ⟨(some 4), (.mv (.tmp 0)), none⟩, ⟨(some 5), (.nilck (.tmp 4)), none⟩, ⟨(some 6), (.fad 6 (.tmp 5)), none⟩, ⟨(some 7), (.ld1 (.tmp 6)), none⟩, ⟨(some 8), (.nilck (.tmp 2)), none⟩, ⟨(some 9), (.fad 8 (.tmp 8)), none⟩, ⟨none, (.st1 (.tmp 9) (.const (.int .i64 4))), none⟩, ⟨(some 10), (.nilck (.tmp 3)), none⟩, ⟨(some 11), (.fad 7 (.tmp 10)), none⟩, ⟨none, (.st1 (.tmp 11) (.tmp 7)), none⟩])
    (.reg [⟨(some 12), (.mv (.tmp 0)), none⟩, ⟨(some 13), (.call 82 [(.tmp 12)]), none⟩]))⟩ := by kernel_rfl

/-- (*allotment/run.Runner).set -/
theorem tr81 : trF Tryz.prog pures Tryz.f81 = some
  ⟨22, [],
    (.seq (.reg [⟨(some 7), (.box 82 (.tmp 3)), none⟩])
    (.draw (.take ⟨(some 8), (.mv (.tmp 1)), none⟩ (.take ⟨(some 9), (.mv (.tmp 0)), none⟩ (.take ⟨(some 10), (.nilck (.tmp 9)), none⟩ (.take ⟨(some 11), (.fad 3 (.tmp 10)), none⟩ (.take ⟨(some 12), (.ld1 (.tmp 11)), none⟩ (.take ⟨(some 13), (.mv (.tmp 0)), none⟩ (.take ⟨(some 14), (.nilck (.tmp 13)), none⟩ (.take ⟨(some 15), (.fad 0 (.tmp 14)), none⟩ (.take ⟨(some 16), (.ldn 3 (.tmp 15)), none⟩ (.take ⟨(some 17), (.mv (.tmp 2)), none⟩ (.take ⟨(some 19), (.ldn 3 (.tmp 7)), none⟩ (.alt false ⟨(some 18), (.pcall 34 [(.tmp 16), (.tmp 17)]), none⟩ (.alt false ⟨(some 20), (.pcall 35 [(.tmp 19)]), none⟩ (.alt true ⟨(some 21), (.call 33 [(.tmp 8), (.tmp 12), (.tmp 18), (.tmp 20)]), none⟩ .done .stop) .stop) .stop))))))))))))))⟩ := by kernel_rfl

/-- (*allotment/run.Runner).gone -/
theorem tr82 : trF Tryz.prog pures Tryz.f82 = some
  ⟨46, [],
    (.seq (.seq
    (.reg [⟨(some 2), (.mv (.tmp 0)), none⟩, ⟨(some 3), (.nilck (.tmp 2)), none⟩, ⟨(some 4), (.fad 7 (.tmp 3)), none⟩, ⟨(some 5), (.ld1 (.tmp 4)), none⟩, ⟨(some 6), (.mv (.tmp 0)), none⟩, ⟨(some 7), (.nilck (.tmp 6)), none⟩, ⟨(some 8), (.fad 5 (.tmp 7)), none⟩, ⟨(some 9), (.ld1 (.tmp 8)), none⟩, ⟨(some 10), (.cmp .gtr (.tmp 5) (.tmp 9)), none⟩])
    (.cond (.tmp 10) .ret .skip))
    (.seq (.reg [⟨(some 11), (.mv (.tmp 0)), none⟩, ⟨(some 12), (.nilck (.tmp 11)), none⟩, ⟨(some 13), (.fad 6 (.tmp 12)), none⟩, ⟨(some 14), (.ld1 (.tmp 13)), none⟩, ⟨(some 15), (.ar .add (.tmp 14) (.const (.int .i64 1))), none⟩, ⟨(some 16), (.nilck (.tmp 11)), none⟩, ⟨(some 17), (.fad 6 (.tmp 16)), none⟩, ⟨none, (.st1 (.tmp 17) (.tmp 15)), none⟩])
    (.seq (.reg [⟨(some 18), (.mv (.tmp 0)), none⟩, ⟨(some 19), (.mv (.tmp 0)), none⟩, ⟨(some 20), (.mv (.tmp 0)), none⟩, ⟨(some 21), (.nilck (.tmp 20)), none⟩, ⟨(some 22), (.fad 6 (.tmp 21)), none⟩, ⟨(some 23), (.ld1 (.tmp 22)), none⟩, ⟨(some 24), (.nilck (.tmp 18)), none⟩, ⟨(some 25), (.fad 5 (.tmp 24)), none⟩, ⟨none, (.st1 (.tmp 25) (.tmp 23)), none⟩, ⟨(some 26), (.nilck (.tmp 19)), none⟩, ⟨(some 27), (.fad 8 (.tmp 26)), none⟩, ⟨none, (.st1 (.tmp 27) (.const (.int .i64 0))), none⟩])
    (.draw (.take ⟨(some 28), (.mv (.tmp 0)), none⟩ (.take ⟨(some 29), (.mv (.tmp 0)), none⟩ (.take ⟨(some 30), (.nilck (.tmp 29)), none⟩ (.take ⟨(some 31), (.fad 5 (.tmp 30)), none⟩ (.take ⟨(some 32), (.ld1 (.tmp 31)), none⟩ (.take ⟨(some 33), (.mv (.tmp 0)), none⟩ (.take ⟨(some 34), (.nilck (.tmp 33)), none⟩ (.take ⟨(some 35), (.fad 0 (.tmp 34)), none⟩ (.take ⟨(some 36), (.fad 0 (.tmp 35)), none⟩ (.take ⟨(some 37), (.ld1 (.tmp 36)), none⟩ (.take ⟨(some 38), (.mv (.tmp 0)), none⟩ (.take ⟨(some 39), (.nilck (.tmp 38)), none⟩ (.take ⟨(some 40), (.fad 4 (.tmp 39)), none⟩ (.take ⟨(some 41), (.ld1 (.tmp 40)), none⟩ (.take ⟨(some 42), (.ar .sub (.tmp 37) (.tmp 41)), none⟩ (.take ⟨(some 43), (.cmp .gtr (.tmp 32) (.tmp 42)), none⟩ (.take ⟨(some 44), (.nilck (.tmp 28)), none⟩ (.take ⟨(some 45), (.fad 11 (.tmp 44)), none⟩ (.alt true ⟨none, (.st1 (.tmp 45) (.tmp 43)), none⟩ .done .stop)))))))))))))))))))))))⟩ := by kernel_rfl

/-- (*allotment/run.Runner).written -/
theorem tr83 : trF Tryz.prog pures Tryz.f83 = some
  ⟨29, [],
    (.seq (.reg [⟨(some 2), (.mv (.tmp 0)), none⟩, ⟨(some 3), (.nilck (.tmp 2)), none⟩, ⟨(some 4), (.fad 7 (.tmp 3)), none⟩, ⟨(some 5), (.ld1 (.tmp 4)), none⟩, ⟨(some 6), (.ar .add (.tmp 5) (.const (.int .i64 1))), none⟩, ⟨(some 7), (.nilck (.tmp 2)), none⟩, ⟨(some 8), (.fad 7 (.tmp 7)), none⟩, ⟨none, (.st1 (.tmp 8) (.tmp 6)), none⟩])
    (.seq (.reg [⟨(some 9), (.mv (.tmp 0)), none⟩, ⟨(some 10), (.nilck (.tmp 9)), none⟩, ⟨(some 11), (.fad 7 (.tmp 10)), none⟩, ⟨(some 12), (.ld1 (.tmp 11)), none⟩, ⟨(some 13), (.mv (.tmp 0)), none⟩, ⟨(some 14), (.nilck (.tmp 13)), none⟩, ⟨(some 15), (.fad 5 (.tmp 14)), none⟩, ⟨(some 16), (.ld1 (.tmp 15)), none⟩, ⟨(some 17), (.mv (.tmp 0)), none⟩, ⟨(some 18), (.nilck (.tmp 17)), none⟩, ⟨(some 19), (.fad 4 (.tmp 18)), none⟩, ⟨(some 20), (.ld1 (.tmp 19)), none⟩, ⟨(some 21), (.ar .add (.tmp 16) (.tmp 20)), none⟩, ⟨(some 22), (.cmp .eql (.tmp 12) (.tmp 21)), none⟩])
    (.cond (.tmp 22)
    (.reg [⟨(some 23), (.mv (.tmp 0)), none⟩, ⟨(some 24), (.mv (.tmp 0)), none⟩, ⟨(some 25), (.nilck (.tmp 23)), none⟩, ⟨(some 26), (.fad 10 (.tmp 25)), none⟩, ⟨none, (.st1 (.tmp 26) (.const (.bool true))), none⟩, ⟨(some 27), (.nilck (.tmp 24)), none⟩, ⟨(some 28), (.fad 11 (.tmp 27)), none⟩, ⟨none, (.st1 (.tmp 28) (.const (.bool true))), none⟩]) .skip)))⟩ := by kernel_rfl

end Go.Proofs.YtfdhilnaagpecaaGreat
