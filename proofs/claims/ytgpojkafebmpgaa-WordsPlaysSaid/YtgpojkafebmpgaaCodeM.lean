/-
  The compact code of functions of this seat, as translated from the model: each translation holds by reckoning. Conditions: none.
-/
import Derived.Test.YtgpojkafebmpgaaCode
set_option maxRecDepth 100000
namespace Go.Proofs.Ytgpojkafebmpgaa
open Go Go.Ev

/-- allotment/run.New -/
theorem tr31 : trF Try.prog pures Try.f31 = some
  ⟨33, [(.t 6)],
    (.seq (.reg [⟨(some 3), (.box 48 (.tmp 0)), none⟩, ⟨(some 6), (.mv (.const (.pointer none))), none⟩])
    (.seq (.reg [⟨(some 8), (.ldn 3 (.tmp 3)), none⟩, ⟨(some 9), (.mv (.tmp 1)), none⟩, ⟨(some 10), (.pcall 69 [(.tmp 8), (.tmp 9)]), none⟩, ⟨(some 11), (.cmp .geq (.tmp 10) (.const (.int .i64 0))), none⟩, ⟨(some 12), (.mv (.tmp 11)), none⟩, ⟨(some 13), (.mv (.tmp 2)), (some (12, true))⟩, ⟨(some 14), (.cmp .geq (.tmp 13) (.const (.int .i64 1))), (some (12, true))⟩, ⟨(some 15), (.pick (.tmp 12) (.tmp 14) (.const (.bool false))), none⟩, ⟨(some 16), (.mv (.tmp 15)), none⟩, ⟨(some 17), (.mv (.tmp 2)), (some (16, true))⟩, ⟨(some 18), (.cmp .leq (.tmp 17) (.const (.int .i64 8))), (some (16, true))⟩, ⟨(some 19), (.pick (.tmp 16) (.tmp 18) (.const (.bool false))), none⟩, ⟨(some 20), (.mv (.tmp 19)), none⟩, ⟨(some 21), (.mv (.tmp 2)), (some (20, true))⟩, ⟨(some 22), (.fad 0 (.tmp 3)), (some (20, true))⟩, ⟨(some 23), (.ld1 (.tmp 22)), (some (20, true))⟩, ⟨(some 24), (.cmp .leq (.tmp 21) (.tmp 23)), (some (20, true))⟩, ⟨(some 25), (.pick (.tmp 20) (.tmp 24) (.const (.bool false))), none⟩, ⟨(some 7), (.mv (.tmp 25)), none⟩])
    (.seq (.reg [⟨(some 26), (.ldn 3 (.tmp 3)), none⟩, ⟨(some 27), (.mv (.tmp 1)), none⟩, ⟨(some 28), (.mv (.tmp 2)), none⟩, ⟨(some 29), (.mv (.tmp 7)), none⟩, ⟨(some 30), (.nt (.tmp 29)), none⟩, ⟨(some 31), (.bld #[(.int .i64 0), (.int .i64 0), (.int .i64 0), (.int .i64 0), (.int .i64 0), (.int .i64 0), (.int .i64 0), (.int .i64 0), (.int .i64 0), (.pointer none), (.bool false), (.bool false)] [(0, (3, (.tmp 26))), (3, (1, (.tmp 27))), (4, (1, (.tmp 28))), (11, (1, (.tmp 30)))]), none⟩, ⟨(some 32), (.box 110 (.tmp 31)), none⟩, ⟨(some 6), (.mv (.tmp 32)), none⟩]) .ret)))⟩ := by kernel_rfl

/-- (*allotment/run.Runner).Step -/
theorem tr32 : trF Try.prog pures Try.f32 = some
  ⟨145, [],
    (.seq (.seq
    (.reg [⟨(some 4), (.mv (.tmp 0)), none⟩, ⟨(some 5), (.pnil false (.tmp 4)), none⟩, ⟨(some 6), (.mv (.tmp 5)), none⟩, ⟨(some 7), (.mv (.tmp 0)), (some (6, false))⟩, ⟨(some 8), (.nilck (.tmp 7)), (some (6, false))⟩, ⟨(some 9), (.fad 11 (.tmp 8)), (some (6, false))⟩, ⟨(some 10), (.ld1 (.tmp 9)), (some (6, false))⟩, ⟨(some 11), (.pick (.tmp 6) (.const (.bool true)) (.tmp 10)), none⟩])
    (.cond (.tmp 11) .ret .skip))
    (.seq (.reg [⟨(some 12), (.mv (.tmp 0)), none⟩, ⟨(some 13), (.nilck (.tmp 12)), none⟩, ⟨(some 14), (.fad 8 (.tmp 13)), none⟩, ⟨(some 15), (.ld1 (.tmp 14)), none⟩])
    (.block 0
    (.seq (.reg [⟨(some 17), (.cmp .eql (.tmp 15) (.const (.int .i64 0))), none⟩, ⟨(some 16), (.mv (.tmp 17)), none⟩])
    (.cond (.tmp 16)
    (.reg [⟨(some 18), (.mv (.tmp 0)), none⟩, ⟨(some 19), (.mv (.tmp 1)), none⟩, ⟨(some 20), (.call 70 [(.tmp 18), (.tmp 19)]), none⟩])
    (.seq (.reg [⟨(some 22), (.cmp .eql (.tmp 15) (.const (.int .i64 1))), none⟩, ⟨(some 21), (.mv (.tmp 22)), none⟩])
    (.cond (.tmp 21)
    (.seq (.draw (.take ⟨(some 23), (.mv (.tmp 1)), none⟩ (.take ⟨(some 24), (.mv (.tmp 0)), none⟩ (.take ⟨(some 25), (.nilck (.tmp 24)), none⟩ (.take ⟨(some 26), (.fad 3 (.tmp 25)), none⟩ (.take ⟨(some 27), (.ld1 (.tmp 26)), none⟩ (.take ⟨(some 28), (.mv (.tmp 0)), none⟩ (.take ⟨(some 29), (.nilck (.tmp 28)), none⟩ (.take ⟨(some 30), (.fad 0 (.tmp 29)), none⟩ (.take ⟨(some 31), (.ldn 3 (.tmp 30)), none⟩ (.take ⟨(some 32), (.mv (.tmp 0)), none⟩ (.take ⟨(some 33), (.nilck (.tmp 32)), none⟩ (.take ⟨(some 34), (.fad 6 (.tmp 33)), none⟩ (.take ⟨(some 35), (.ld1 (.tmp 34)), none⟩ (.take ⟨(some 37), (.mv (.tmp 0)), none⟩ (.take ⟨(some 38), (.nilck (.tmp 37)), none⟩ (.take ⟨(some 39), (.fad 3 (.tmp 38)), none⟩ (.take ⟨(some 40), (.ld1 (.tmp 39)), none⟩ (.take ⟨(some 41), (.bld #[(.int .i64 0), (.int .i64 0), (.int .i64 0)] [(0, (1, (.const (.int .i64 1)))), (1, (1, (.tmp 40)))]), none⟩ (.alt false ⟨(some 36), (.pcall 71 [(.tmp 31), (.tmp 35)]), none⟩ (.alt false ⟨(some 42), (.pcall 72 [(.tmp 41)]), none⟩ (.alt true ⟨(some 43), (.call 55 [(.tmp 23), (.tmp 27), (.tmp 36), (.const (.int .u64 0)), (.tmp 42)]), none⟩ .done .stop) .stop) .stop))))))))))))))))))))
    (.cond (.tmp 43)
    (.reg [⟨(some 44), (.mv (.tmp 0)), none⟩, ⟨(some 45), (.call 73 [(.tmp 44)]), none⟩])
    (.reg [⟨(some 46), (.mv (.tmp 0)), none⟩, ⟨(some 47), (.call 74 [(.tmp 46)]), none⟩])))
    (.seq (.reg [⟨(some 49), (.cmp .eql (.tmp 15) (.const (.int .i64 2))), none⟩, ⟨(some 48), (.mv (.tmp 49)), none⟩])
    (.cond (.tmp 48)
    (.seq (.reg [⟨(some 50), (.mv (.tmp 0)), none⟩, ⟨(some 51), (.nilck (.tmp 50)), none⟩, ⟨(some 52), (.fad 9 (.tmp 51)), none⟩, ⟨(some 53), (.ld1 (.tmp 52)), none⟩, ⟨(some 54), (.mv (.tmp 1)), none⟩, ⟨(some 55), (.call 75 [(.tmp 53), (.tmp 54)]), none⟩])
    (.seq (.reg [⟨(some 56), (.mv (.tmp 0)), none⟩, ⟨(some 57), (.nilck (.tmp 56)), none⟩, ⟨(some 58), (.fad 9 (.tmp 57)), none⟩, ⟨(some 59), (.ld1 (.tmp 58)), none⟩, ⟨(some 60), (.call 76 [(.tmp 59)]), none⟩])
    (.cond (.tmp 60)
    (.reg [⟨(some 61), (.mv (.tmp 0)), none⟩, ⟨(some 62), (.mv (.tmp 0)), none⟩, ⟨(some 63), (.nilck (.tmp 61)), none⟩, ⟨(some 64), (.fad 8 (.tmp 63)), none⟩, ⟨none, (.st1 (.tmp 64) (.const (.int .i64 3))), none⟩, ⟨(some 65), (.nilck (.tmp 62)), none⟩, ⟨(some 66), (.fad 7 (.tmp 65)), none⟩, ⟨none, (.st1 (.tmp 66) (.const (.int .i64 0))), none⟩])
    (.seq (.reg [⟨(some 67), (.mv (.tmp 0)), none⟩, ⟨(some 68), (.nilck (.tmp 67)), none⟩, ⟨(some 69), (.fad 9 (.tmp 68)), none⟩, ⟨(some 70), (.ld1 (.tmp 69)), none⟩, ⟨(some 71), (.call 77 [(.tmp 70)]), none⟩])
    (.cond (.tmp 71)
    (.reg [⟨(some 72), (.mv (.tmp 0)), none⟩, ⟨(some 73), (.call 74 [(.tmp 72)]), none⟩]) .skip)))))
    (.seq (.reg [⟨(some 75), (.cmp .eql (.tmp 15) (.const (.int .i64 3))), none⟩, ⟨(some 74), (.mv (.tmp 75)), none⟩])
    (.cond (.tmp 74)
    (.seq (.draw (.take ⟨(some 76), (.mv (.tmp 1)), none⟩ (.take ⟨(some 77), (.mv (.tmp 0)), none⟩ (.take ⟨(some 78), (.nilck (.tmp 77)), none⟩ (.take ⟨(some 79), (.fad 3 (.tmp 78)), none⟩ (.take ⟨(some 80), (.ld1 (.tmp 79)), none⟩ (.take ⟨(some 81), (.mv (.tmp 0)), none⟩ (.take ⟨(some 82), (.nilck (.tmp 81)), none⟩ (.take ⟨(some 83), (.fad 0 (.tmp 82)), none⟩ (.take ⟨(some 84), (.ldn 3 (.tmp 83)), none⟩ (.take ⟨(some 85), (.mv (.tmp 0)), none⟩ (.take ⟨(some 86), (.nilck (.tmp 85)), none⟩ (.take ⟨(some 87), (.fad 6 (.tmp 86)), none⟩ (.take ⟨(some 88), (.ld1 (.tmp 87)), none⟩ (.take ⟨(some 89), (.mv (.tmp 0)), none⟩ (.take ⟨(some 90), (.nilck (.tmp 89)), none⟩ (.take ⟨(some 91), (.fad 7 (.tmp 90)), none⟩ (.take ⟨(some 92), (.ld1 (.tmp 91)), none⟩ (.alt false ⟨(some 93), (.pcall 78 [(.tmp 84), (.tmp 88), (.tmp 92)]), none⟩ (.alt true ⟨(some 94), (.call 62 [(.tmp 76), (.tmp 80), (.tmp 93), (.const (.int .u64 0))]), none⟩ .done .stop) .stop)))))))))))))))))))
    (.seq (.reg [⟨(some 95), (.mv (.tmp 0)), none⟩, ⟨(some 96), (.nilck (.tmp 95)), none⟩, ⟨(some 97), (.fad 7 (.tmp 96)), none⟩, ⟨(some 98), (.ld1 (.tmp 97)), none⟩, ⟨(some 99), (.ar .add (.tmp 98) (.const (.int .i64 1))), none⟩, ⟨(some 100), (.nilck (.tmp 95)), none⟩, ⟨(some 101), (.fad 7 (.tmp 100)), none⟩, ⟨none, (.st1 (.tmp 101) (.tmp 99)), none⟩])
    (.seq (.reg [⟨(some 102), (.mv (.tmp 0)), none⟩, ⟨(some 103), (.nilck (.tmp 102)), none⟩, ⟨(some 104), (.fad 7 (.tmp 103)), none⟩, ⟨(some 105), (.ld1 (.tmp 104)), none⟩, ⟨(some 106), (.cmp .eql (.tmp 105) (.const (.int .i64 16))), none⟩])
    (.cond (.tmp 106)
    (.reg [⟨(some 107), (.mv (.tmp 0)), none⟩, ⟨(some 108), (.call 73 [(.tmp 107)]), none⟩]) .skip))))
    (.seq (.reg [⟨(some 110), (.cmp .eql (.tmp 15) (.const (.int .i64 4))), none⟩, ⟨(some 109), (.mv (.tmp 110)), none⟩])
    (.cond (.tmp 109)
    (.seq (.reg [⟨(some 111), (.mv (.tmp 0)), none⟩, ⟨(some 112), (.mv (.tmp 1)), none⟩, ⟨(some 113), (.mv (.tmp 0)), none⟩, ⟨(some 114), (.nilck (.tmp 113)), none⟩, ⟨(some 115), (.fad 7 (.tmp 114)), none⟩, ⟨(some 116), (.ld1 (.tmp 115)), none⟩, ⟨(some 117), (.ar .sub (.tmp 116) (.const (.int .i64 1))), none⟩, ⟨(some 118), (.bld #[(.int .i64 0), (.int .i64 0), (.int .i64 0)] []), none⟩, ⟨(some 119), (.call 79 [(.tmp 111), (.tmp 112), (.tmp 117), (.tmp 118)]), none⟩])
    (.seq (.reg [⟨(some 120), (.mv (.tmp 0)), none⟩, ⟨(some 121), (.nilck (.tmp 120)), none⟩, ⟨(some 122), (.fad 7 (.tmp 121)), none⟩, ⟨(some 123), (.ld1 (.tmp 122)), none⟩, ⟨(some 124), (.ar .sub (.tmp 123) (.const (.int .i64 1))), none⟩, ⟨(some 125), (.nilck (.tmp 120)), none⟩, ⟨(some 126), (.fad 7 (.tmp 125)), none⟩, ⟨none, (.st1 (.tmp 126) (.tmp 124)), none⟩])
    (.reg [⟨(some 127), (.mv (.tmp 0)), none⟩, ⟨(some 128), (.call 80 [(.tmp 127)]), none⟩])))
    (.seq (.reg [⟨(some 130), (.cmp .eql (.tmp 15) (.const (.int .i64 5))), none⟩, ⟨(some 129), (.mv (.tmp 130)), none⟩])
    (.cond (.tmp 129)
    (.seq (.draw (.take ⟨(some 131), (.mv (.tmp 0)), none⟩ (.take ⟨(some 132), (.mv (.tmp 1)), none⟩ (.take ⟨(some 133), (.mv (.tmp 0)), none⟩ (.take ⟨(some 134), (.nilck (.tmp 133)), none⟩ (.take ⟨(some 135), (.fad 7 (.tmp 134)), none⟩ (.take ⟨(some 136), (.ld1 (.tmp 135)), none⟩ (.take ⟨(some 137), (.mv (.tmp 0)), none⟩ (.take ⟨(some 138), (.nilck (.tmp 137)), none⟩ (.take ⟨(some 139), (.fad 5 (.tmp 138)), none⟩ (.take ⟨(some 140), (.ld1 (.tmp 139)), none⟩ (.take ⟨(some 141), (.bld #[(.int .i64 0), (.int .i64 0), (.int .i64 0)] [(0, (1, (.const (.int .i64 4)))), (1, (1, (.tmp 140)))]), none⟩ (.alt true ⟨(some 142), (.call 79 [(.tmp 131), (.tmp 132), (.tmp 136), (.tmp 141)]), none⟩ .done .stop)))))))))))))
    (.reg [⟨(some 143), (.mv (.tmp 0)), none⟩, ⟨(some 144), (.call 81 [(.tmp 143)]), none⟩])) .skip)))))))))))))))⟩ := by kernel_rfl

/-- (*allotment/run.Runner).Found -/
theorem tr33 : trF Try.prog pures Try.f33 = some
  ⟨17, [(.t 2), (.t 3)],
    (.seq (.reg [⟨(some 2), (.mv (.const (.int .i64 0))), none⟩, ⟨(some 3), (.mv (.const (.bool false))), none⟩])
    (.seq (.seq
    (.reg [⟨(some 4), (.mv (.tmp 0)), none⟩, ⟨(some 5), (.pnil false (.tmp 4)), none⟩, ⟨(some 6), (.mv (.tmp 5)), none⟩, ⟨(some 7), (.mv (.tmp 0)), (some (6, false))⟩, ⟨(some 8), (.nilck (.tmp 7)), (some (6, false))⟩, ⟨(some 9), (.fad 10 (.tmp 8)), (some (6, false))⟩, ⟨(some 10), (.ld1 (.tmp 9)), (some (6, false))⟩, ⟨(some 11), (.nt (.tmp 10)), (some (6, false))⟩, ⟨(some 12), (.pick (.tmp 6) (.const (.bool true)) (.tmp 11)), none⟩])
    (.cond (.tmp 12)
    (.seq (.reg [⟨(some 2), (.mv (.const (.int .i64 0))), none⟩, ⟨(some 3), (.mv (.const (.bool false))), none⟩]) .ret) .skip))
    (.seq (.reg [⟨(some 13), (.mv (.tmp 0)), none⟩, ⟨(some 14), (.nilck (.tmp 13)), none⟩, ⟨(some 15), (.fad 5 (.tmp 14)), none⟩, ⟨(some 16), (.ld1 (.tmp 15)), none⟩, ⟨(some 2), (.mv (.tmp 16)), none⟩, ⟨(some 3), (.mv (.const (.bool true))), none⟩]) .ret)))⟩ := by kernel_rfl

/-- (*allotment/run.Runner).Done -/
theorem tr34 : trF Try.prog pures Try.f34 = some
  ⟨11, [(.t 2)],
    (.seq (.reg [⟨(some 2), (.mv (.const (.bool false))), none⟩])
    (.seq (.reg [⟨(some 3), (.mv (.tmp 0)), none⟩, ⟨(some 4), (.pnil true (.tmp 3)), none⟩, ⟨(some 5), (.mv (.tmp 4)), none⟩, ⟨(some 6), (.mv (.tmp 0)), (some (5, true))⟩, ⟨(some 7), (.nilck (.tmp 6)), (some (5, true))⟩, ⟨(some 8), (.fad 11 (.tmp 7)), (some (5, true))⟩, ⟨(some 9), (.ld1 (.tmp 8)), (some (5, true))⟩, ⟨(some 10), (.pick (.tmp 5) (.tmp 9) (.const (.bool false))), none⟩, ⟨(some 2), (.mv (.tmp 10)), none⟩]) .ret))⟩ := by kernel_rfl

/-- allotment/give.New -/
theorem tr37 : trF Try.prog pures Try.f37 = some
  ⟨31, [(.t 6)],
    (.seq (.reg [⟨(some 3), (.box 48 (.tmp 0)), none⟩, ⟨(some 6), (.mv (.const (.pointer none))), none⟩])
    (.seq (.reg [⟨(some 11), (.ldn 3 (.tmp 3)), none⟩, ⟨(some 12), (.mv (.tmp 2)), none⟩, ⟨(some 13), (.pcall 82 [(.tmp 11), (.tmp 12)]), none⟩, ⟨(some 10), (.mv (.tmp 13)), none⟩, ⟨(some 14), (.ext 0 (.tmp 10)), none⟩, ⟨(some 15), (.ext 1 (.tmp 10)), none⟩, ⟨(some 16), (.ext 2 (.tmp 10)), none⟩, ⟨(some 7), (.mv (.tmp 14)), none⟩, ⟨(some 8), (.mv (.tmp 15)), none⟩, ⟨(some 9), (.mv (.tmp 16)), none⟩])
    (.seq (.draw (.take ⟨(some 17), (.ldn 3 (.tmp 3)), none⟩ (.take ⟨(some 18), (.mv (.tmp 1)), none⟩ (.take ⟨(some 19), (.mv (.tmp 2)), none⟩ (.take ⟨(some 20), (.mv (.tmp 7)), none⟩ (.take ⟨(some 21), (.mv (.tmp 9)), none⟩ (.take ⟨(some 22), (.nt (.tmp 21)), none⟩ (.take ⟨(some 23), (.mv (.tmp 22)), none⟩ (.take ⟨(some 24), (.ldn 3 (.tmp 3)), (some (23, false))⟩ (.take ⟨(some 25), (.mv (.tmp 1)), (some (23, false))⟩ (.alt false ⟨(some 26), (.pcall 69 [(.tmp 24), (.tmp 25)]), (some (23, false))⟩ (.take ⟨(some 27), (.cmp .lss (.tmp 26) (.const (.int .i64 0))), (some (23, false))⟩ (.take ⟨(some 28), (.pick (.tmp 23) (.const (.bool true)) (.tmp 27)), none⟩ (.take ⟨(some 29), (.bld #[(.int .i64 0), (.int .i64 0), (.int .i64 0), (.int .i64 0), (.int .i64 0), (.int .i64 0), (.int .i64 0), (.int .u64 0), (.int .i64 0), (.int .i64 0), (.int .i64 0), (.int .i64 0), (.int .i64 0), (.pointer none), (.bool false), (.bool false)] [(0, (3, (.tmp 17))), (3, (1, (.tmp 18))), (4, (1, (.tmp 19))), (5, (1, (.tmp 20))), (15, (1, (.tmp 28)))]), none⟩ (.alt false ⟨(some 30), (.box 118 (.tmp 29)), none⟩ (.take ⟨(some 6), (.mv (.tmp 30)), none⟩ .done) .stop)))) .stop))))))))))) .ret)))⟩ := by kernel_rfl

/-- (*allotment/give.Freer).Step -/
theorem tr38 : trF Try.prog pures Try.f38 = some
  ⟨72, [],
    (.seq (.seq
    (.reg [⟨(some 4), (.mv (.tmp 0)), none⟩, ⟨(some 5), (.pnil false (.tmp 4)), none⟩, ⟨(some 6), (.mv (.tmp 5)), none⟩, ⟨(some 7), (.mv (.tmp 0)), (some (6, false))⟩, ⟨(some 8), (.nilck (.tmp 7)), (some (6, false))⟩, ⟨(some 9), (.fad 15 (.tmp 8)), (some (6, false))⟩, ⟨(some 10), (.ld1 (.tmp 9)), (some (6, false))⟩, ⟨(some 11), (.pick (.tmp 6) (.const (.bool true)) (.tmp 10)), none⟩])
    (.cond (.tmp 11) .ret .skip))
    (.seq (.reg [⟨(some 12), (.mv (.tmp 0)), none⟩, ⟨(some 13), (.nilck (.tmp 12)), none⟩, ⟨(some 14), (.fad 11 (.tmp 13)), none⟩, ⟨(some 15), (.ld1 (.tmp 14)), none⟩])
    (.block 0
    (.seq (.reg [⟨(some 17), (.cmp .eql (.tmp 15) (.const (.int .i64 0))), none⟩, ⟨(some 16), (.mv (.tmp 17)), none⟩])
    (.cond (.tmp 16)
    (.reg [⟨(some 18), (.mv (.tmp 0)), none⟩, ⟨(some 19), (.mv (.tmp 1)), none⟩, ⟨(some 20), (.call 83 [(.tmp 18), (.tmp 19)]), none⟩])
    (.seq (.reg [⟨(some 22), (.cmp .eql (.tmp 15) (.const (.int .i64 1))), none⟩, ⟨(some 21), (.mv (.tmp 22)), none⟩])
    (.cond (.tmp 21)
    (.reg [⟨(some 23), (.mv (.tmp 0)), none⟩, ⟨(some 24), (.mv (.tmp 1)), none⟩, ⟨(some 25), (.call 84 [(.tmp 23), (.tmp 24)]), none⟩])
    (.seq (.reg [⟨(some 27), (.cmp .eql (.tmp 15) (.const (.int .i64 2))), none⟩, ⟨(some 26), (.mv (.tmp 27)), none⟩])
    (.cond (.tmp 26)
    (.seq (.reg [⟨(some 28), (.mv (.tmp 0)), none⟩, ⟨(some 29), (.nilck (.tmp 28)), none⟩, ⟨(some 30), (.fad 13 (.tmp 29)), none⟩, ⟨(some 31), (.ld1 (.tmp 30)), none⟩, ⟨(some 32), (.mv (.tmp 1)), none⟩, ⟨(some 33), (.call 85 [(.tmp 31), (.tmp 32)]), none⟩])
    (.reg [⟨(some 34), (.mv (.tmp 0)), none⟩, ⟨(some 35), (.call 86 [(.tmp 34)]), none⟩]))
    (.seq (.reg [⟨(some 37), (.cmp .eql (.tmp 15) (.const (.int .i64 3))), none⟩, ⟨(some 36), (.mv (.tmp 37)), none⟩])
    (.cond (.tmp 36)
    (.seq (.draw (.take ⟨(some 38), (.mv (.tmp 1)), none⟩ (.take ⟨(some 39), (.mv (.tmp 0)), none⟩ (.take ⟨(some 40), (.nilck (.tmp 39)), none⟩ (.take ⟨(some 41), (.fad 3 (.tmp 40)), none⟩ (.take ⟨(some 42), (.ld1 (.tmp 41)), none⟩ (.take ⟨(some 43), (.mv (.tmp 0)), none⟩ (.take ⟨(some 44), (.nilck (.tmp 43)), none⟩ (.take ⟨(some 45), (.fad 0 (.tmp 44)), none⟩ (.take ⟨(some 46), (.ldn 3 (.tmp 45)), none⟩ (.take ⟨(some 47), (.mv (.tmp 0)), none⟩ (.take ⟨(some 48), (.nilck (.tmp 47)), none⟩ (.take ⟨(some 49), (.fad 5 (.tmp 48)), none⟩ (.take ⟨(some 50), (.ld1 (.tmp 49)), none⟩ (.take ⟨(some 51), (.mv (.tmp 0)), none⟩ (.take ⟨(some 52), (.nilck (.tmp 51)), none⟩ (.take ⟨(some 53), (.fad 6 (.tmp 52)), none⟩ (.take ⟨(some 54), (.ld1 (.tmp 53)), none⟩ (.take ⟨(some 56), (.mv (.tmp 0)), none⟩ (.take ⟨(some 57), (.nilck (.tmp 56)), none⟩ (.take ⟨(some 58), (.fad 8 (.tmp 57)), none⟩ (.take ⟨(some 59), (.fad 1 (.tmp 58)), none⟩ (.take ⟨(some 60), (.ld1 (.tmp 59)), none⟩ (.take ⟨(some 61), (.bld #[(.int .i64 0), (.int .i64 0)] [(0, (1, (.const (.int .i64 1)))), (1, (1, (.tmp 60)))]), none⟩ (.alt false ⟨(some 55), (.pcall 78 [(.tmp 46), (.tmp 50), (.tmp 54)]), none⟩ (.alt false ⟨(some 62), (.pcall 87 [(.tmp 61)]), none⟩ (.alt true ⟨(some 63), (.call 62 [(.tmp 38), (.tmp 42), (.tmp 55), (.tmp 62)]), none⟩ .done .stop) .stop) .stop)))))))))))))))))))))))))
    (.reg [⟨(some 64), (.mv (.tmp 0)), none⟩, ⟨(some 65), (.nilck (.tmp 64)), none⟩, ⟨(some 66), (.fad 15 (.tmp 65)), none⟩, ⟨none, (.st1 (.tmp 66) (.const (.bool true))), none⟩]))
    (.seq (.reg [⟨(some 68), (.cmp .eql (.tmp 15) (.const (.int .i64 4))), none⟩, ⟨(some 67), (.mv (.tmp 68)), none⟩])
    (.cond (.tmp 67)
    (.reg [⟨(some 69), (.mv (.tmp 0)), none⟩, ⟨(some 70), (.mv (.tmp 1)), none⟩, ⟨(some 71), (.call 88 [(.tmp 69), (.tmp 70)]), none⟩]) .skip)))))))))))))⟩ := by kernel_rfl

/-- (*allotment/give.Freer).Done -/
theorem tr39 : trF Try.prog pures Try.f39 = some
  ⟨11, [(.t 2)],
    (.seq (.reg [⟨(some 2), (.mv (.const (.bool false))), none⟩])
    (.seq (.reg [⟨(some 3), (.mv (.tmp 0)), none⟩, ⟨(some 4), (.pnil true (.tmp 3)), none⟩, ⟨(some 5), (.mv (.tmp 4)), none⟩, ⟨(some 6), (.mv (.tmp 0)), (some (5, true))⟩, ⟨(some 7), (.nilck (.tmp 6)), (some (5, true))⟩, ⟨(some 8), (.fad 15 (.tmp 7)), (some (5, true))⟩, ⟨(some 9), (.ld1 (.tmp 8)), (some (5, true))⟩, ⟨(some 10), (.pick (.tmp 5) (.tmp 9) (.const (.bool false))), none⟩, ⟨(some 2), (.mv (.tmp 10)), none⟩]) .ret))⟩ := by kernel_rfl

/-- (*allotment/give.Freer).Gave -/
theorem tr40 : trF Try.prog pures Try.f40 = some
  ⟨11, [(.t 2)],
    (.seq (.reg [⟨(some 2), (.mv (.const (.bool false))), none⟩])
    (.seq (.reg [⟨(some 3), (.mv (.tmp 0)), none⟩, ⟨(some 4), (.pnil true (.tmp 3)), none⟩, ⟨(some 5), (.mv (.tmp 4)), none⟩, ⟨(some 6), (.mv (.tmp 0)), (some (5, true))⟩, ⟨(some 7), (.nilck (.tmp 6)), (some (5, true))⟩, ⟨(some 8), (.fad 14 (.tmp 7)), (some (5, true))⟩, ⟨(some 9), (.ld1 (.tmp 8)), (some (5, true))⟩, ⟨(some 10), (.pick (.tmp 5) (.tmp 9) (.const (.bool false))), none⟩, ⟨(some 2), (.mv (.tmp 10)), none⟩]) .ret))⟩ := by kernel_rfl

/-- allotment/allotmentref20.Sound -/
theorem tr44 : trF Try.prog pures Try.f44 = some
  ⟨134, [(.t 4)],
    (.seq (.reg [⟨(some 2), (.box 48 (.tmp 0)), none⟩, ⟨(some 4), (.mv (.const (.bool false))), none⟩])
    (.seq (.seq
    (.reg [⟨(some 17), (.ldn 3 (.tmp 2)), none⟩, ⟨(some 18), (.mv (.tmp 1)), none⟩, ⟨(some 19), (.call 89 [(.tmp 17), (.tmp 18)]), none⟩, ⟨(some 20), (.nt (.tmp 19)), none⟩])
    (.cond (.tmp 20)
    (.seq (.reg [⟨(some 4), (.mv (.const (.bool false))), none⟩]) .ret) .skip))
    (.seq (.seq
    (.reg [⟨(some 5), (.mv (.const (.int .i64 0))), none⟩])
    (.block 0
    (.loop (.seq
    (.seq (.reg [⟨(some 21), (.mv (.tmp 5)), none⟩, ⟨(some 22), (.fad 0 (.tmp 2)), none⟩, ⟨(some 23), (.ld1 (.tmp 22)), none⟩, ⟨(some 24), (.cmp .lss (.tmp 21) (.tmp 23)), none⟩])
    (.cond (.tmp 24) .skip (.exit 0)))
    (.seq (.block 1
    (.seq (.reg [⟨(some 28), (.ldn 3 (.tmp 2)), none⟩, ⟨(some 29), (.mv (.tmp 1)), none⟩, ⟨(some 30), (.mv (.tmp 5)), none⟩, ⟨(some 31), (.call 90 [(.tmp 28), (.tmp 29), (.tmp 30)]), none⟩, ⟨(some 27), (.mv (.tmp 31)), none⟩, ⟨(some 32), (.ext 0 (.tmp 27)), none⟩, ⟨(some 33), (.ext 1 (.tmp 27)), none⟩, ⟨(some 6), (.alc 53 (.agg #[(.int .i64 0), (.int .i64 0), (.int .i64 0)])), none⟩, ⟨none, (.stn 3 (.tmp 6) (.tmp 32)), none⟩, ⟨(some 7), (.mv (.tmp 33)), none⟩])
    (.seq (.reg [⟨(some 34), (.mv (.tmp 7)), none⟩, ⟨(some 35), (.nt (.tmp 34)), none⟩, ⟨(some 36), (.mv (.tmp 35)), none⟩, ⟨(some 37), (.ldn 3 (.tmp 2)), (some (36, false))⟩, ⟨(some 38), (.mv (.tmp 1)), (some (36, false))⟩, ⟨(some 39), (.mv (.tmp 5)), (some (36, false))⟩, ⟨(some 40), (.ldn 3 (.tmp 6)), (some (36, false))⟩, ⟨(some 41), (.call 91 [(.tmp 37), (.tmp 38), (.tmp 39), (.tmp 40)]), (some (36, false))⟩, ⟨(some 42), (.nt (.tmp 41)), (some (36, false))⟩, ⟨(some 43), (.pick (.tmp 36) (.const (.bool true)) (.tmp 42)), none⟩])
    (.cond (.tmp 43)
    (.seq (.reg [⟨(some 4), (.mv (.const (.bool false))), none⟩]) .ret) .skip))))
    (.reg [⟨(some 25), (.mv (.tmp 5)), none⟩, ⟨(some 26), (.ar .add (.tmp 25) (.const (.int .i64 1))), none⟩, ⟨(some 5), (.mv (.tmp 26)), none⟩]))))))
    (.seq (.reg [⟨(some 8), (.mv (.const (.slice none 0 0))), none⟩])
    (.seq (.seq
    (.reg [⟨(some 9), (.mv (.const (.int .i64 0))), none⟩])
    (.block 2
    (.loop (.seq
    (.seq (.reg [⟨(some 44), (.mv (.tmp 9)), none⟩, ⟨(some 45), (.fad 1 (.tmp 2)), none⟩, ⟨(some 46), (.ld1 (.tmp 45)), none⟩, ⟨(some 47), (.cmp .lss (.tmp 44) (.tmp 46)), none⟩])
    (.cond (.tmp 47) .skip (.exit 2)))
    (.seq (.block 3
    (.seq (.reg [⟨(some 10), (.mv (.const (.int .i64 0))), none⟩])
    (.block 4
    (.loop (.seq
    (.seq (.reg [⟨(some 50), (.mv (.tmp 10)), none⟩, ⟨(some 51), (.fad 2 (.tmp 2)), none⟩, ⟨(some 52), (.ld1 (.tmp 51)), none⟩, ⟨(some 53), (.cmp .lss (.tmp 50) (.tmp 52)), none⟩])
    (.cond (.tmp 53) .skip (.exit 4)))
    (.seq (.block 5
    (.seq (.reg [⟨(some 56), (.mv (.tmp 1)), none⟩, ⟨(some 57), (.ldn 3 (.tmp 2)), none⟩, ⟨(some 58), (.mv (.tmp 9)), none⟩, ⟨(some 59), (.mv (.tmp 10)), none⟩, ⟨(some 60), (.pcall 41 [(.tmp 57), (.tmp 58), (.tmp 59)]), none⟩, ⟨(some 61), (.iad 1 (.tmp 56) (.tmp 60)), none⟩, ⟨(some 62), (.ld1 (.tmp 61)), none⟩, ⟨(some 11), (.mv (.tmp 62)), none⟩])
    (.seq (.seq
    (.reg [⟨(some 63), (.mv (.tmp 11)), none⟩, ⟨(some 64), (.cmp .eql (.tmp 63) (.const (.int .u64 0))), none⟩])
    (.cond (.tmp 64) (.exit 5) .skip))
    (.seq (.reg [⟨(some 66), (.ldn 3 (.tmp 2)), none⟩, ⟨(some 67), (.mv (.tmp 11)), none⟩, ⟨(some 68), (.pcall 92 [(.tmp 66), (.tmp 67)]), none⟩, ⟨(some 65), (.mv (.tmp 68)), none⟩, ⟨(some 69), (.ext 0 (.tmp 65)), none⟩, ⟨(some 70), (.ext 1 (.tmp 65)), none⟩, ⟨(some 12), (.alc 73 (.agg #[(.int .i64 0), (.int .i64 0), (.int .i64 0)])), none⟩, ⟨none, (.stn 3 (.tmp 12) (.tmp 69)), none⟩, ⟨(some 13), (.mv (.tmp 70)), none⟩])
    (.seq (.seq
    (.reg [⟨(some 71), (.mv (.tmp 13)), none⟩, ⟨(some 72), (.nt (.tmp 71)), none⟩])
    (.cond (.tmp 72)
    (.seq (.reg [⟨(some 4), (.mv (.const (.bool false))), none⟩]) .ret) .skip))
    (.seq (.reg [⟨(some 74), (.ldn 3 (.tmp 2)), none⟩, ⟨(some 75), (.mv (.tmp 1)), none⟩, ⟨(some 76), (.fad 0 (.tmp 12)), none⟩, ⟨(some 77), (.ld1 (.tmp 76)), none⟩, ⟨(some 78), (.call 90 [(.tmp 74), (.tmp 75), (.tmp 77)]), none⟩, ⟨(some 73), (.mv (.tmp 78)), none⟩, ⟨(some 79), (.ext 0 (.tmp 73)), none⟩, ⟨(some 80), (.ext 1 (.tmp 73)), none⟩, ⟨(some 14), (.alc 53 (.agg #[(.int .i64 0), (.int .i64 0), (.int .i64 0)])), none⟩, ⟨none, (.stn 3 (.tmp 14) (.tmp 79)), none⟩, ⟨(some 15), (.mv (.tmp 80)), none⟩])
    (.seq (.seq
    (.reg [⟨(some 81), (.fad 0 (.tmp 14)), none⟩, ⟨(some 82), (.ld1 (.tmp 81)), none⟩, ⟨(some 83), (.cmp .neq (.tmp 82) (.const (.int .i64 2))), none⟩, ⟨(some 84), (.mv (.tmp 83)), none⟩, ⟨(some 85), (.fad 1 (.tmp 14)), (some (84, false))⟩, ⟨(some 86), (.ld1 (.tmp 85)), (some (84, false))⟩, ⟨(some 87), (.fad 2 (.tmp 12)), (some (84, false))⟩, ⟨(some 88), (.ld1 (.tmp 87)), (some (84, false))⟩, ⟨(some 89), (.cmp .neq (.tmp 86) (.tmp 88)), (some (84, false))⟩, ⟨(some 90), (.pick (.tmp 84) (.const (.bool true)) (.tmp 89)), none⟩, ⟨(some 91), (.mv (.tmp 90)), none⟩, ⟨(some 92), (.mv (.tmp 1)), (some (91, false))⟩, ⟨(some 93), (.ldn 3 (.tmp 2)), (some (91, false))⟩, ⟨(some 94), (.fad 0 (.tmp 12)), (some (91, false))⟩, ⟨(some 95), (.ld1 (.tmp 94)), (some (91, false))⟩, ⟨(some 96), (.fad 1 (.tmp 12)), (some (91, false))⟩, ⟨(some 97), (.ld1 (.tmp 96)), (some (91, false))⟩, ⟨(some 98), (.pcall 30 [(.tmp 93), (.tmp 95), (.tmp 97)]), (some (91, false))⟩, ⟨(some 99), (.iad 1 (.tmp 92) (.tmp 98)), (some (91, false))⟩, ⟨(some 100), (.ld1 (.tmp 99)), (some (91, false))⟩, ⟨(some 101), (.mv (.tmp 9)), (some (91, false))⟩, ⟨(some 102), (.bld #[(.int .i64 0), (.int .i64 0)] [(0, (1, (.const (.int .i64 2)))), (1, (1, (.tmp 101)))]), (some (91, false))⟩, ⟨(some 103), (.pcall 29 [(.tmp 102)]), (some (91, false))⟩, ⟨(some 104), (.cmp .neq (.tmp 100) (.tmp 103)), (some (91, false))⟩, ⟨(some 105), (.pick (.tmp 91) (.const (.bool true)) (.tmp 104)), none⟩])
    (.cond (.tmp 105)
    (.seq (.reg [⟨(some 4), (.mv (.const (.bool false))), none⟩]) .ret) .skip))
    (.seq (.seq
    (.reg [⟨(some 16), (.mv (.const (.int .i64 0))), none⟩])
    (.block 6
    (.loop (.seq
    (.seq (.reg [⟨(some 106), (.mv (.tmp 16)), none⟩, ⟨(some 107), (.mv (.tmp 8)), none⟩, ⟨(some 108), (.len (.tmp 107)), none⟩, ⟨(some 109), (.cmp .lss (.tmp 106) (.tmp 108)), none⟩])
    (.cond (.tmp 109) .skip (.exit 6)))
    (.seq (.block 7
    (.seq (.reg [⟨(some 112), (.mv (.tmp 8)), none⟩, ⟨(some 113), (.mv (.tmp 16)), none⟩, ⟨(some 114), (.iad 3 (.tmp 112) (.tmp 113)), none⟩, ⟨(some 115), (.fad 0 (.tmp 114)), none⟩, ⟨(some 116), (.ld1 (.tmp 115)), none⟩, ⟨(some 117), (.fad 0 (.tmp 12)), none⟩, ⟨(some 118), (.ld1 (.tmp 117)), none⟩, ⟨(some 119), (.cmp .eql (.tmp 116) (.tmp 118)), none⟩, ⟨(some 120), (.mv (.tmp 119)), none⟩, ⟨(some 121), (.mv (.tmp 8)), (some (120, true))⟩, ⟨(some 122), (.mv (.tmp 16)), (some (120, true))⟩, ⟨(some 123), (.iad 3 (.tmp 121) (.tmp 122)), (some (120, true))⟩, ⟨(some 124), (.fad 1 (.tmp 123)), (some (120, true))⟩, ⟨(some 125), (.ld1 (.tmp 124)), (some (120, true))⟩, ⟨(some 126), (.fad 1 (.tmp 12)), (some (120, true))⟩, ⟨(some 127), (.ld1 (.tmp 126)), (some (120, true))⟩, ⟨(some 128), (.cmp .eql (.tmp 125) (.tmp 127)), (some (120, true))⟩, ⟨(some 129), (.pick (.tmp 120) (.tmp 128) (.const (.bool false))), none⟩])
    (.cond (.tmp 129)
    (.seq (.reg [⟨(some 4), (.mv (.const (.bool false))), none⟩]) .ret) .skip)))
    (.reg [⟨(some 110), (.mv (.tmp 16)), none⟩, ⟨(some 111), (.ar .add (.tmp 110) (.const (.int .i64 1))), none⟩, ⟨(some 16), (.mv (.tmp 111)), none⟩]))))))
    (.reg [⟨(some 130), (.mv (.tmp 8)), none⟩, ⟨(some 131), (.ldn 3 (.tmp 12)), none⟩, ⟨(some 132), (.bsl 73 #[(.int .i64 0), (.int .i64 0), (.int .i64 0)] 1 3 [(0, (.tmp 131))]), none⟩, ⟨(some 133), (.app 73 3 24 #[(.int .i64 0), (.int .i64 0), (.int .i64 0)] (.tmp 130) (.tmp 132)), none⟩, ⟨(some 8), (.mv (.tmp 133)), none⟩])))))))))
    (.reg [⟨(some 54), (.mv (.tmp 10)), none⟩, ⟨(some 55), (.ar .add (.tmp 54) (.const (.int .i64 1))), none⟩, ⟨(some 10), (.mv (.tmp 55)), none⟩])))))))
    (.reg [⟨(some 48), (.mv (.tmp 9)), none⟩, ⟨(some 49), (.ar .add (.tmp 48) (.const (.int .i64 1))), none⟩, ⟨(some 9), (.mv (.tmp 49)), none⟩]))))))
    (.seq (.reg [⟨(some 4), (.mv (.const (.bool true))), none⟩]) .ret))))))⟩ := by kernel_rfl

/-- allotment/allotmentref20.Blocks -/
theorem tr46 : trF Try.prog pures Try.f46 = some
  ⟨81, [(.t 4)],
    (.seq (.reg [⟨(some 2), (.box 48 (.tmp 0)), none⟩, ⟨(some 4), (.mv (.const (.slice none 0 0))), none⟩])
    (.seq (.reg [⟨(some 5), (.mv (.const (.slice none 0 0))), none⟩])
    (.seq (.seq
    (.reg [⟨(some 6), (.mv (.const (.int .i64 0))), none⟩])
    (.block 0
    (.loop (.seq
    (.seq (.reg [⟨(some 11), (.mv (.tmp 6)), none⟩, ⟨(some 12), (.fad 0 (.tmp 2)), none⟩, ⟨(some 13), (.ld1 (.tmp 12)), none⟩, ⟨(some 14), (.cmp .lss (.tmp 11) (.tmp 13)), none⟩, ⟨(some 15), (.mv (.tmp 14)), none⟩, ⟨(some 16), (.ldn 3 (.tmp 2)), (some (15, true))⟩, ⟨(some 17), (.mv (.tmp 1)), (some (15, true))⟩, ⟨(some 18), (.call 89 [(.tmp 16), (.tmp 17)]), (some (15, true))⟩, ⟨(some 19), (.pick (.tmp 15) (.tmp 18) (.const (.bool false))), none⟩])
    (.cond (.tmp 19) .skip (.exit 0)))
    (.seq (.block 1
    (.seq (.reg [⟨(some 23), (.ldn 3 (.tmp 2)), none⟩, ⟨(some 24), (.mv (.tmp 1)), none⟩, ⟨(some 25), (.mv (.tmp 6)), none⟩, ⟨(some 26), (.call 90 [(.tmp 23), (.tmp 24), (.tmp 25)]), none⟩, ⟨(some 22), (.mv (.tmp 26)), none⟩, ⟨(some 27), (.ext 0 (.tmp 22)), none⟩, ⟨(some 28), (.ext 1 (.tmp 22)), none⟩, ⟨(some 7), (.alc 53 (.agg #[(.int .i64 0), (.int .i64 0), (.int .i64 0)])), none⟩, ⟨none, (.stn 3 (.tmp 7) (.tmp 27)), none⟩, ⟨(some 8), (.mv (.tmp 28)), none⟩])
    (.block 2
    (.seq (.reg [⟨(some 30), (.mv (.tmp 8)), none⟩, ⟨(some 31), (.mv (.tmp 30)), none⟩, ⟨(some 32), (.fad 0 (.tmp 7)), (some (31, true))⟩, ⟨(some 33), (.ld1 (.tmp 32)), (some (31, true))⟩, ⟨(some 34), (.cmp .eql (.tmp 33) (.const (.int .i64 3))), (some (31, true))⟩, ⟨(some 35), (.pick (.tmp 31) (.tmp 34) (.const (.bool false))), none⟩, ⟨(some 29), (.mv (.tmp 35)), none⟩])
    (.cond (.tmp 29) .no
    (.seq (.reg [⟨(some 46), (.mv (.tmp 8)), none⟩, ⟨(some 47), (.mv (.tmp 46)), none⟩, ⟨(some 48), (.fad 0 (.tmp 7)), (some (47, true))⟩, ⟨(some 49), (.ld1 (.tmp 48)), (some (47, true))⟩, ⟨(some 50), (.cmp .eql (.tmp 49) (.const (.int .i64 2))), (some (47, true))⟩, ⟨(some 51), (.pick (.tmp 47) (.tmp 50) (.const (.bool false))), none⟩, ⟨(some 45), (.mv (.tmp 51)), none⟩])
    (.cond (.tmp 45)
    (.seq (.reg [⟨(some 52), (.fad 1 (.tmp 7)), none⟩, ⟨(some 53), (.ld1 (.tmp 52)), none⟩, ⟨(some 54), (.pcall 36 [(.tmp 53)]), none⟩, ⟨(some 9), (.mv (.tmp 54)), none⟩])
    (.seq (.reg [⟨(some 10), (.mv (.const (.int .i64 0))), none⟩])
    (.block 3
    (.loop (.seq
    (.seq (.reg [⟨(some 55), (.mv (.tmp 10)), none⟩, ⟨(some 56), (.fad 1 (.tmp 7)), none⟩, ⟨(some 57), (.ld1 (.tmp 56)), none⟩, ⟨(some 58), (.pcall 28 [(.tmp 57)]), none⟩, ⟨(some 59), (.cmp .lss (.tmp 55) (.tmp 58)), none⟩])
    (.cond (.tmp 59) .skip (.exit 3)))
    (.seq (.block 4
    (.seq (.reg [⟨(some 62), (.ldn 3 (.tmp 2)), none⟩, ⟨(some 63), (.mv (.tmp 1)), none⟩, ⟨(some 64), (.mv (.tmp 6)), none⟩, ⟨(some 65), (.mv (.tmp 10)), none⟩, ⟨(some 66), (.call 93 [(.tmp 62), (.tmp 63), (.tmp 64), (.tmp 65)]), none⟩, ⟨(some 67), (.fld1 0 (.tmp 66)), none⟩, ⟨(some 68), (.cmp .eql (.tmp 67) (.const (.int .i64 3))), none⟩])
    (.cond (.tmp 68) .no .skip)))
    (.reg [⟨(some 60), (.mv (.tmp 10)), none⟩, ⟨(some 61), (.ar .add (.tmp 60) (.const (.int .i64 1))), none⟩, ⟨(some 10), (.mv (.tmp 61)), none⟩]))))))) .skip)))))))
    (.reg [⟨(some 20), (.mv (.tmp 6)), none⟩, ⟨(some 21), (.ar .add (.tmp 20) (.const (.int .i64 1))), none⟩, ⟨(some 6), (.mv (.tmp 21)), none⟩]))))))
    (.seq (.reg [⟨(some 80), (.mv (.tmp 5)), none⟩, ⟨(some 4), (.mv (.tmp 80)), none⟩]) .ret))))⟩ := by kernel_rfl

/-- allotment/allotmentref20.Room -/
theorem tr47 : trF Try.prog pures Try.f47 = some
  ⟨89, [(.t 6)],
    (.seq (.reg [⟨(some 3), (.box 48 (.tmp 0)), none⟩, ⟨(some 6), (.mv (.const (.bool false))), none⟩])
    (.seq (.reg [⟨(some 18), (.mv (.tmp 2)), none⟩, ⟨(some 19), (.pcall 94 [(.tmp 18)]), none⟩, ⟨(some 17), (.mv (.tmp 19)), none⟩, ⟨(some 20), (.ext 0 (.tmp 17)), none⟩, ⟨(some 21), (.ext 1 (.tmp 17)), none⟩, ⟨(some 7), (.mv (.tmp 20)), none⟩, ⟨(some 8), (.mv (.tmp 21)), none⟩])
    (.seq (.reg [⟨(some 23), (.mv (.tmp 2)), none⟩, ⟨(some 24), (.pcall 95 [(.tmp 23)]), none⟩, ⟨(some 22), (.mv (.tmp 24)), none⟩, ⟨(some 25), (.ext 0 (.tmp 22)), none⟩, ⟨(some 26), (.ext 1 (.tmp 22)), none⟩, ⟨(some 9), (.mv (.tmp 25)), none⟩, ⟨(some 10), (.mv (.tmp 26)), none⟩])
    (.seq (.seq
    (.reg [⟨(some 27), (.mv (.tmp 10)), none⟩])
    (.cond (.tmp 27)
    (.reg [⟨(some 7), (.mv (.const (.int .i64 1))), none⟩]) .skip))
    (.seq (.seq
    (.reg [⟨(some 28), (.mv (.tmp 8)), none⟩, ⟨(some 29), (.nt (.tmp 28)), none⟩, ⟨(some 30), (.mv (.tmp 29)), none⟩, ⟨(some 31), (.mv (.tmp 10)), (some (30, true))⟩, ⟨(some 32), (.nt (.tmp 31)), (some (30, true))⟩, ⟨(some 33), (.pick (.tmp 30) (.tmp 32) (.const (.bool false))), none⟩, ⟨(some 34), (.mv (.tmp 33)), none⟩, ⟨(some 35), (.ldn 3 (.tmp 3)), (some (34, false))⟩, ⟨(some 36), (.mv (.tmp 1)), (some (34, false))⟩, ⟨(some 37), (.call 89 [(.tmp 35), (.tmp 36)]), (some (34, false))⟩, ⟨(some 38), (.nt (.tmp 37)), (some (34, false))⟩, ⟨(some 39), (.pick (.tmp 34) (.const (.bool true)) (.tmp 38)), none⟩])
    (.cond (.tmp 39)
    (.seq (.reg [⟨(some 6), (.mv (.const (.bool false))), none⟩]) .ret) .skip))
    (.seq (.reg [⟨(some 11), (.mv (.const (.int .i64 0))), none⟩])
    (.seq (.seq
    (.reg [⟨(some 12), (.mv (.const (.int .i64 0))), none⟩])
    (.block 0
    (.loop (.seq
    (.seq (.reg [⟨(some 40), (.mv (.tmp 12)), none⟩, ⟨(some 41), (.fad 0 (.tmp 3)), none⟩, ⟨(some 42), (.ld1 (.tmp 41)), none⟩, ⟨(some 43), (.cmp .lss (.tmp 40) (.tmp 42)), none⟩])
    (.cond (.tmp 43) .skip (.exit 0)))
    (.seq (.block 1
    (.seq (.reg [⟨(some 47), (.ldn 3 (.tmp 3)), none⟩, ⟨(some 48), (.mv (.tmp 1)), none⟩, ⟨(some 49), (.mv (.tmp 12)), none⟩, ⟨(some 50), (.call 90 [(.tmp 47), (.tmp 48), (.tmp 49)]), none⟩, ⟨(some 46), (.mv (.tmp 50)), none⟩, ⟨(some 51), (.ext 0 (.tmp 46)), none⟩, ⟨(some 52), (.ext 1 (.tmp 46)), none⟩, ⟨(some 13), (.alc 53 (.agg #[(.int .i64 0), (.int .i64 0), (.int .i64 0)])), none⟩, ⟨none, (.stn 3 (.tmp 13) (.tmp 51)), none⟩, ⟨(some 14), (.mv (.tmp 52)), none⟩])
    (.seq (.reg [⟨(some 53), (.mv (.tmp 14)), none⟩, ⟨(some 54), (.mv (.tmp 53)), none⟩, ⟨(some 55), (.fad 0 (.tmp 13)), (some (54, true))⟩, ⟨(some 56), (.ld1 (.tmp 55)), (some (54, true))⟩, ⟨(some 57), (.cmp .eql (.tmp 56) (.const (.int .i64 0))), (some (54, true))⟩, ⟨(some 58), (.pick (.tmp 54) (.tmp 57) (.const (.bool false))), none⟩, ⟨(some 15), (.mv (.tmp 58)), none⟩])
    (.seq (.seq
    (.reg [⟨(some 59), (.mv (.tmp 14)), none⟩, ⟨(some 60), (.mv (.tmp 59)), none⟩, ⟨(some 61), (.fad 0 (.tmp 13)), (some (60, true))⟩, ⟨(some 62), (.ld1 (.tmp 61)), (some (60, true))⟩, ⟨(some 63), (.cmp .eql (.tmp 62) (.const (.int .i64 2))), (some (60, true))⟩, ⟨(some 64), (.pick (.tmp 60) (.tmp 63) (.const (.bool false))), none⟩])
    (.cond (.tmp 64)
    (.seq (.reg [⟨(some 15), (.mv (.const (.bool true))), none⟩])
    (.seq (.reg [⟨(some 16), (.mv (.const (.int .i64 0))), none⟩])
    (.block 2
    (.loop (.seq
    (.seq (.reg [⟨(some 65), (.mv (.tmp 16)), none⟩, ⟨(some 66), (.fad 1 (.tmp 13)), none⟩, ⟨(some 67), (.ld1 (.tmp 66)), none⟩, ⟨(some 68), (.pcall 28 [(.tmp 67)]), none⟩, ⟨(some 69), (.cmp .lss (.tmp 65) (.tmp 68)), none⟩])
    (.cond (.tmp 69) .skip (.exit 2)))
    (.seq (.block 3
    (.reg [⟨(some 72), (.mv (.tmp 15)), none⟩, ⟨(some 73), (.mv (.tmp 72)), none⟩, ⟨(some 74), (.ldn 3 (.tmp 3)), (some (73, true))⟩, ⟨(some 75), (.mv (.tmp 1)), (some (73, true))⟩, ⟨(some 76), (.mv (.tmp 12)), (some (73, true))⟩, ⟨(some 77), (.mv (.tmp 16)), (some (73, true))⟩, ⟨(some 78), (.call 93 [(.tmp 74), (.tmp 75), (.tmp 76), (.tmp 77)]), (some (73, true))⟩, ⟨(some 79), (.fld1 0 (.tmp 78)), (some (73, true))⟩, ⟨(some 80), (.cmp .eql (.tmp 79) (.const (.int .i64 1))), (some (73, true))⟩, ⟨(some 81), (.pick (.tmp 73) (.tmp 80) (.const (.bool false))), none⟩, ⟨(some 15), (.mv (.tmp 81)), none⟩]))
    (.reg [⟨(some 70), (.mv (.tmp 16)), none⟩, ⟨(some 71), (.ar .add (.tmp 70) (.const (.int .i64 1))), none⟩, ⟨(some 16), (.mv (.tmp 71)), none⟩]))))))) .skip))
    (.seq (.reg [⟨(some 82), (.mv (.tmp 11)), none⟩, ⟨(some 83), (.ar .add (.tmp 82) (.const (.int .i64 1))), none⟩, ⟨(some 11), (.mv (.tmp 83)), none⟩])
    (.seq (.seq
    (.reg [⟨(some 84), (.mv (.tmp 15)), none⟩, ⟨(some 85), (.nt (.tmp 84)), none⟩])
    (.cond (.tmp 85)
    (.reg [⟨(some 11), (.mv (.const (.int .i64 0))), none⟩]) .skip))
    (.seq (.reg [⟨(some 86), (.mv (.tmp 11)), none⟩, ⟨(some 87), (.mv (.tmp 7)), none⟩, ⟨(some 88), (.cmp .geq (.tmp 86) (.tmp 87)), none⟩])
    (.cond (.tmp 88)
    (.seq (.reg [⟨(some 6), (.mv (.const (.bool true))), none⟩]) .ret) .skip))))))))
    (.reg [⟨(some 44), (.mv (.tmp 12)), none⟩, ⟨(some 45), (.ar .add (.tmp 44) (.const (.int .i64 1))), none⟩, ⟨(some 12), (.mv (.tmp 45)), none⟩]))))))
    (.seq (.reg [⟨(some 6), (.mv (.const (.bool false))), none⟩]) .ret))))))))⟩ := by kernel_rfl

/-- allotment/allotmentref8.NewRunner -/
theorem tr48 : trF Try.prog pures Try.f48 = some
  ⟨30, [(.t 6)],
    (.seq (.reg [⟨(some 3), (.box 48 (.tmp 0)), none⟩, ⟨(some 6), (.mv (.const (.pointer none))), none⟩])
    (.seq (.draw (.take ⟨(some 7), (.ldn 3 (.tmp 3)), none⟩ (.take ⟨(some 8), (.mv (.tmp 1)), none⟩ (.take ⟨(some 9), (.mv (.tmp 2)), none⟩ (.take ⟨(some 10), (.ldn 3 (.tmp 3)), none⟩ (.take ⟨(some 11), (.mv (.tmp 1)), none⟩ (.alt false ⟨(some 12), (.pcall 96 [(.tmp 10), (.tmp 11)]), none⟩ (.take ⟨(some 13), (.nt (.tmp 12)), none⟩ (.take ⟨(some 14), (.mv (.tmp 13)), none⟩ (.take ⟨(some 15), (.mv (.tmp 2)), (some (14, false))⟩ (.take ⟨(some 16), (.cmp .lss (.tmp 15) (.const (.int .i64 1))), (some (14, false))⟩ (.take ⟨(some 17), (.pick (.tmp 14) (.const (.bool true)) (.tmp 16)), none⟩ (.take ⟨(some 18), (.mv (.tmp 17)), none⟩ (.take ⟨(some 19), (.mv (.tmp 2)), (some (18, false))⟩ (.take ⟨(some 20), (.cmp .gtr (.tmp 19) (.const (.int .i64 8))), (some (18, false))⟩ (.take ⟨(some 21), (.pick (.tmp 18) (.const (.bool true)) (.tmp 20)), none⟩ (.take ⟨(some 22), (.mv (.tmp 21)), none⟩ (.take ⟨(some 23), (.mv (.tmp 2)), (some (22, false))⟩ (.take ⟨(some 24), (.fad 0 (.tmp 3)), (some (22, false))⟩ (.take ⟨(some 25), (.ld1 (.tmp 24)), (some (22, false))⟩ (.take ⟨(some 26), (.cmp .gtr (.tmp 23) (.tmp 25)), (some (22, false))⟩ (.take ⟨(some 27), (.pick (.tmp 22) (.const (.bool true)) (.tmp 26)), none⟩ (.take ⟨(some 28), (.bld #[(.int .i64 0), (.int .i64 0), (.int .i64 0), (.int .i64 0), (.int .i64 0), (.int .i64 0), (.int .i64 0), (.bool false), (.bool false), (.int .i64 0), (.int .i64 0), (.int .i64 0), (.pointer none)] [(0, (3, (.tmp 7))), (3, (1, (.tmp 8))), (4, (1, (.tmp 9))), (8, (1, (.tmp 27)))]), none⟩ (.alt false ⟨(some 29), (.box 86 (.tmp 28)), none⟩ (.take ⟨(some 6), (.mv (.tmp 29)), none⟩ .done) .stop))))))))))))))))) .stop))))))) .ret))⟩ := by kernel_rfl

/-- (*allotment/allotmentref8.Runner).Step -/
theorem tr49 : trF Try.prog pures Try.f49 = some
  ⟨226, [],
    (.seq (.seq
    (.reg [⟨(some 8), (.mv (.tmp 0)), none⟩, ⟨(some 9), (.nilck (.tmp 8)), none⟩, ⟨(some 10), (.fad 8 (.tmp 9)), none⟩, ⟨(some 11), (.ld1 (.tmp 10)), none⟩])
    (.cond (.tmp 11) .ret .skip))
    (.seq (.reg [⟨(some 12), (.mv (.tmp 0)), none⟩, ⟨(some 13), (.nilck (.tmp 12)), none⟩, ⟨(some 14), (.fad 0 (.tmp 13)), none⟩, ⟨(some 15), (.ldn 3 (.tmp 14)), none⟩, ⟨(some 16), (.mv (.tmp 0)), none⟩, ⟨(some 17), (.nilck (.tmp 16)), none⟩, ⟨(some 18), (.fad 6 (.tmp 17)), none⟩, ⟨(some 19), (.ld1 (.tmp 18)), none⟩, ⟨(some 20), (.pcall 27 [(.tmp 15), (.tmp 19)]), none⟩, ⟨(some 4), (.mv (.tmp 20)), none⟩])
    (.seq (.reg [⟨(some 21), (.mv (.tmp 0)), none⟩, ⟨(some 22), (.nilck (.tmp 21)), none⟩, ⟨(some 23), (.fad 9 (.tmp 22)), none⟩, ⟨(some 24), (.ld1 (.tmp 23)), none⟩])
    (.block 0
    (.seq (.reg [⟨(some 56), (.cmp .eql (.tmp 24) (.const (.int .i64 0))), none⟩, ⟨(some 55), (.mv (.tmp 56)), none⟩])
    (.cond (.tmp 55)
    (.seq (.reg [⟨(some 57), (.mv (.tmp 1)), none⟩, ⟨(some 58), (.mv (.tmp 0)), none⟩, ⟨(some 59), (.nilck (.tmp 58)), none⟩, ⟨(some 60), (.fad 3 (.tmp 59)), none⟩, ⟨(some 61), (.ld1 (.tmp 60)), none⟩, ⟨(some 62), (.mv (.tmp 4)), none⟩, ⟨(some 63), (.call 61 [(.tmp 57), (.tmp 61), (.tmp 62)]), none⟩, ⟨(some 5), (.mv (.tmp 63)), none⟩])
    (.seq (.draw (.take ⟨(some 65), (.mv (.tmp 0)), none⟩ (.take ⟨(some 66), (.nilck (.tmp 65)), none⟩ (.take ⟨(some 67), (.fad 0 (.tmp 66)), none⟩ (.take ⟨(some 68), (.ldn 3 (.tmp 67)), none⟩ (.take ⟨(some 69), (.mv (.tmp 0)), none⟩ (.take ⟨(some 70), (.nilck (.tmp 69)), none⟩ (.take ⟨(some 71), (.fad 6 (.tmp 70)), none⟩ (.take ⟨(some 72), (.ld1 (.tmp 71)), none⟩ (.take ⟨(some 73), (.mv (.tmp 5)), none⟩ (.alt false ⟨(some 74), (.pcall 97 [(.tmp 68), (.tmp 72), (.tmp 73)]), none⟩ (.take ⟨(some 64), (.mv (.tmp 74)), none⟩ (.take ⟨(some 75), (.ext 0 (.tmp 64)), none⟩ (.take ⟨(some 76), (.ext 1 (.tmp 64)), none⟩ (.alt false ⟨(some 6), (.alc 53 (.agg #[(.int .i64 0), (.int .i64 0), (.int .i64 0)])), none⟩ (.alt false ⟨none, (.stn 3 (.tmp 6) (.tmp 75)), none⟩ (.take ⟨(some 7), (.mv (.tmp 76)), none⟩ .done) .stop) .stop)))) (.alt false ⟨(some 6), (.alc 53 (.agg #[(.int .i64 0), (.int .i64 0), (.int .i64 0)])), none⟩ (.alt false ⟨(some 74), (.pcall 97 [(.tmp 68), (.tmp 72), (.tmp 73)]), none⟩ (.take ⟨(some 64), (.mv (.tmp 74)), none⟩ (.take ⟨(some 75), (.ext 0 (.tmp 64)), none⟩ (.take ⟨(some 76), (.ext 1 (.tmp 64)), none⟩ (.alt false ⟨none, (.stn 3 (.tmp 6) (.tmp 75)), none⟩ (.take ⟨(some 7), (.mv (.tmp 76)), none⟩ .done) .stop)))) .stop) .stop))))))))))))
    (.block 1
    (.seq (.reg [⟨(some 80), (.mv (.tmp 7)), none⟩, ⟨(some 81), (.mv (.tmp 80)), none⟩, ⟨(some 82), (.fad 0 (.tmp 6)), (some (81, true))⟩, ⟨(some 83), (.ld1 (.tmp 82)), (some (81, true))⟩, ⟨(some 84), (.cmp .eql (.tmp 83) (.const (.int .i64 0))), (some (81, true))⟩, ⟨(some 85), (.pick (.tmp 81) (.tmp 84) (.const (.bool false))), none⟩, ⟨(some 79), (.mv (.tmp 85)), none⟩])
    (.cond (.tmp 79)
    (.reg [⟨(some 86), (.mv (.tmp 0)), none⟩, ⟨(some 87), (.nilck (.tmp 86)), none⟩, ⟨(some 88), (.fad 9 (.tmp 87)), none⟩, ⟨none, (.st1 (.tmp 88) (.const (.int .i64 1))), none⟩])
    (.seq (.reg [⟨(some 90), (.mv (.tmp 7)), none⟩, ⟨(some 91), (.mv (.tmp 90)), none⟩, ⟨(some 92), (.fad 0 (.tmp 6)), (some (91, true))⟩, ⟨(some 93), (.ld1 (.tmp 92)), (some (91, true))⟩, ⟨(some 94), (.cmp .eql (.tmp 93) (.const (.int .i64 2))), (some (91, true))⟩, ⟨(some 95), (.pick (.tmp 91) (.tmp 94) (.const (.bool false))), none⟩, ⟨(some 89), (.mv (.tmp 95)), none⟩])
    (.cond (.tmp 89)
    (.draw (.take ⟨(some 96), (.mv (.tmp 0)), none⟩ (.take ⟨(some 97), (.mv (.tmp 0)), none⟩ (.take ⟨(some 98), (.mv (.tmp 0)), none⟩ (.take ⟨(some 99), (.nilck (.tmp 98)), none⟩ (.take ⟨(some 100), (.fad 0 (.tmp 99)), none⟩ (.take ⟨(some 101), (.ldn 3 (.tmp 100)), none⟩ (.take ⟨(some 102), (.mv (.tmp 0)), none⟩ (.take ⟨(some 103), (.nilck (.tmp 102)), none⟩ (.take ⟨(some 104), (.fad 3 (.tmp 103)), none⟩ (.take ⟨(some 105), (.ld1 (.tmp 104)), none⟩ (.take ⟨(some 106), (.mv (.tmp 0)), none⟩ (.take ⟨(some 107), (.nilck (.tmp 106)), none⟩ (.take ⟨(some 108), (.fad 6 (.tmp 107)), none⟩ (.take ⟨(some 109), (.ld1 (.tmp 108)), none⟩ (.take ⟨(some 110), (.fad 1 (.tmp 6)), none⟩ (.take ⟨(some 111), (.ld1 (.tmp 110)), none⟩ (.alt false ⟨(some 112), (.call 98 [(.tmp 101), (.tmp 105), (.tmp 109), (.tmp 111)]), none⟩ (.take ⟨(some 113), (.nilck (.tmp 96)), none⟩ (.take ⟨(some 114), (.fad 9 (.tmp 113)), none⟩ (.alt false ⟨none, (.st1 (.tmp 114) (.const (.int .i64 2))), none⟩ (.take ⟨(some 115), (.nilck (.tmp 97)), none⟩ (.take ⟨(some 116), (.fad 12 (.tmp 115)), none⟩ (.alt true ⟨none, (.st1 (.tmp 116) (.tmp 112)), none⟩ .done .stop))) .stop))) .stop))))))))))))))))))
    (.reg [⟨(some 77), (.mv (.tmp 0)), none⟩, ⟨(some 78), (.call 99 [(.tmp 77)]), none⟩]))))))))
    (.seq (.reg [⟨(some 118), (.cmp .eql (.tmp 24) (.const (.int .i64 1))), none⟩, ⟨(some 117), (.mv (.tmp 118)), none⟩])
    (.cond (.tmp 117)
    (.seq (.draw (.take ⟨(some 119), (.mv (.tmp 1)), none⟩ (.take ⟨(some 120), (.mv (.tmp 0)), none⟩ (.take ⟨(some 121), (.nilck (.tmp 120)), none⟩ (.take ⟨(some 122), (.fad 3 (.tmp 121)), none⟩ (.take ⟨(some 123), (.ld1 (.tmp 122)), none⟩ (.take ⟨(some 124), (.mv (.tmp 4)), none⟩ (.take ⟨(some 125), (.mv (.tmp 0)), none⟩ (.take ⟨(some 126), (.nilck (.tmp 125)), none⟩ (.take ⟨(some 127), (.fad 3 (.tmp 126)), none⟩ (.take ⟨(some 128), (.ld1 (.tmp 127)), none⟩ (.alt false ⟨(some 129), (.pcall 100 [(.tmp 128)]), none⟩ (.alt true ⟨(some 130), (.call 64 [(.tmp 119), (.tmp 123), (.tmp 124), (.const (.int .u64 0)), (.tmp 129)]), none⟩ .done .stop) .stop))))))))))))
    (.cond (.tmp 130)
    (.reg [⟨(some 131), (.mv (.tmp 0)), none⟩, ⟨(some 132), (.call 101 [(.tmp 131)]), none⟩])
    (.reg [⟨(some 133), (.mv (.tmp 0)), none⟩, ⟨(some 134), (.call 99 [(.tmp 133)]), none⟩])))
    (.seq (.reg [⟨(some 136), (.cmp .eql (.tmp 24) (.const (.int .i64 2))), none⟩, ⟨(some 135), (.mv (.tmp 136)), none⟩])
    (.cond (.tmp 135)
    (.seq (.reg [⟨(some 137), (.mv (.tmp 0)), none⟩, ⟨(some 138), (.nilck (.tmp 137)), none⟩, ⟨(some 139), (.fad 12 (.tmp 138)), none⟩, ⟨(some 140), (.ld1 (.tmp 139)), none⟩, ⟨(some 141), (.mv (.tmp 1)), none⟩, ⟨(some 142), (.call 102 [(.tmp 140), (.tmp 141)]), none⟩])
    (.seq (.reg [⟨(some 143), (.mv (.tmp 0)), none⟩, ⟨(some 144), (.nilck (.tmp 143)), none⟩, ⟨(some 145), (.fad 12 (.tmp 144)), none⟩, ⟨(some 146), (.ld1 (.tmp 145)), none⟩, ⟨(some 147), (.nilck (.tmp 146)), none⟩, ⟨(some 148), (.fad 7 (.tmp 147)), none⟩, ⟨(some 149), (.ld1 (.tmp 148)), none⟩])
    (.cond (.tmp 149)
    (.reg [⟨(some 150), (.mv (.tmp 0)), none⟩, ⟨(some 151), (.mv (.tmp 0)), none⟩, ⟨(some 152), (.nilck (.tmp 150)), none⟩, ⟨(some 153), (.fad 9 (.tmp 152)), none⟩, ⟨none, (.st1 (.tmp 153) (.const (.int .i64 3))), none⟩, ⟨(some 154), (.nilck (.tmp 151)), none⟩, ⟨(some 155), (.fad 11 (.tmp 154)), none⟩, ⟨none, (.st1 (.tmp 155) (.const (.int .i64 0))), none⟩])
    (.seq (.reg [⟨(some 156), (.mv (.tmp 0)), none⟩, ⟨(some 157), (.nilck (.tmp 156)), none⟩, ⟨(some 158), (.fad 12 (.tmp 157)), none⟩, ⟨(some 159), (.ld1 (.tmp 158)), none⟩, ⟨(some 160), (.nilck (.tmp 159)), none⟩, ⟨(some 161), (.fad 8 (.tmp 160)), none⟩, ⟨(some 162), (.ld1 (.tmp 161)), none⟩])
    (.cond (.tmp 162)
    (.reg [⟨(some 163), (.mv (.tmp 0)), none⟩, ⟨(some 164), (.call 99 [(.tmp 163)]), none⟩]) .skip)))))
    (.seq (.reg [⟨(some 166), (.cmp .eql (.tmp 24) (.const (.int .i64 3))), none⟩, ⟨(some 165), (.mv (.tmp 166)), none⟩])
    (.cond (.tmp 165)
    (.seq (.draw (.take ⟨(some 167), (.mv (.tmp 1)), none⟩ (.take ⟨(some 168), (.mv (.tmp 0)), none⟩ (.take ⟨(some 169), (.nilck (.tmp 168)), none⟩ (.take ⟨(some 170), (.fad 3 (.tmp 169)), none⟩ (.take ⟨(some 171), (.ld1 (.tmp 170)), none⟩ (.take ⟨(some 172), (.mv (.tmp 0)), none⟩ (.take ⟨(some 173), (.nilck (.tmp 172)), none⟩ (.take ⟨(some 174), (.fad 0 (.tmp 173)), none⟩ (.take ⟨(some 175), (.ldn 3 (.tmp 174)), none⟩ (.take ⟨(some 176), (.mv (.tmp 0)), none⟩ (.take ⟨(some 177), (.nilck (.tmp 176)), none⟩ (.take ⟨(some 178), (.fad 6 (.tmp 177)), none⟩ (.take ⟨(some 179), (.ld1 (.tmp 178)), none⟩ (.take ⟨(some 180), (.mv (.tmp 0)), none⟩ (.take ⟨(some 181), (.nilck (.tmp 180)), none⟩ (.take ⟨(some 182), (.fad 11 (.tmp 181)), none⟩ (.take ⟨(some 183), (.ld1 (.tmp 182)), none⟩ (.alt false ⟨(some 184), (.pcall 30 [(.tmp 175), (.tmp 179), (.tmp 183)]), none⟩ (.alt true ⟨(some 185), (.call 63 [(.tmp 167), (.tmp 171), (.tmp 184), (.const (.int .u64 0))]), none⟩ .done .stop) .stop)))))))))))))))))))
    (.seq (.reg [⟨(some 186), (.mv (.tmp 0)), none⟩, ⟨(some 187), (.nilck (.tmp 186)), none⟩, ⟨(some 188), (.fad 11 (.tmp 187)), none⟩, ⟨(some 189), (.ld1 (.tmp 188)), none⟩, ⟨(some 190), (.ar .add (.tmp 189) (.const (.int .i64 1))), none⟩, ⟨(some 191), (.nilck (.tmp 186)), none⟩, ⟨(some 192), (.fad 11 (.tmp 191)), none⟩, ⟨none, (.st1 (.tmp 192) (.tmp 190)), none⟩])
    (.seq (.reg [⟨(some 193), (.mv (.tmp 0)), none⟩, ⟨(some 194), (.nilck (.tmp 193)), none⟩, ⟨(some 195), (.fad 11 (.tmp 194)), none⟩, ⟨(some 196), (.ld1 (.tmp 195)), none⟩, ⟨(some 197), (.cmp .eql (.tmp 196) (.const (.int .i64 16))), none⟩])
    (.cond (.tmp 197)
    (.reg [⟨(some 198), (.mv (.tmp 0)), none⟩, ⟨(some 199), (.call 101 [(.tmp 198)]), none⟩]) .skip))))
    (.seq (.reg [⟨(some 201), (.cmp .eql (.tmp 24) (.const (.int .i64 4))), none⟩, ⟨(some 200), (.mv (.tmp 201)), none⟩])
    (.cond (.tmp 200)
    (.seq (.reg [⟨(some 202), (.mv (.tmp 0)), none⟩, ⟨(some 203), (.nilck (.tmp 202)), none⟩, ⟨(some 204), (.fad 11 (.tmp 203)), none⟩, ⟨(some 205), (.ld1 (.tmp 204)), none⟩, ⟨(some 206), (.ar .sub (.tmp 205) (.const (.int .i64 1))), none⟩, ⟨(some 207), (.nilck (.tmp 202)), none⟩, ⟨(some 208), (.fad 11 (.tmp 207)), none⟩, ⟨none, (.st1 (.tmp 208) (.tmp 206)), none⟩])
    (.seq (.draw (.take ⟨(some 209), (.mv (.tmp 1)), none⟩ (.take ⟨(some 210), (.mv (.tmp 0)), none⟩ (.take ⟨(some 211), (.nilck (.tmp 210)), none⟩ (.take ⟨(some 212), (.fad 3 (.tmp 211)), none⟩ (.take ⟨(some 213), (.ld1 (.tmp 212)), none⟩ (.take ⟨(some 214), (.mv (.tmp 0)), none⟩ (.take ⟨(some 215), (.nilck (.tmp 214)), none⟩ (.take ⟨(some 216), (.fad 0 (.tmp 215)), none⟩ (.take ⟨(some 217), (.ldn 3 (.tmp 216)), none⟩ (.take ⟨(some 218), (.mv (.tmp 0)), none⟩ (.take ⟨(some 219), (.nilck (.tmp 218)), none⟩ (.take ⟨(some 220), (.fad 11 (.tmp 219)), none⟩ (.take ⟨(some 221), (.ld1 (.tmp 220)), none⟩ (.alt false ⟨(some 222), (.pcall 27 [(.tmp 217), (.tmp 221)]), none⟩ (.alt true ⟨(some 223), (.call 63 [(.tmp 209), (.tmp 213), (.tmp 222), (.const (.int .u64 0))]), none⟩ .done .stop) .stop)))))))))))))))
    (.reg [⟨(some 224), (.mv (.tmp 0)), none⟩, ⟨(some 225), (.call 103 [(.tmp 224)]), none⟩])))
    (.seq (.draw (.take ⟨(some 25), (.mv (.tmp 1)), none⟩ (.take ⟨(some 26), (.mv (.tmp 0)), none⟩ (.take ⟨(some 27), (.nilck (.tmp 26)), none⟩ (.take ⟨(some 28), (.fad 3 (.tmp 27)), none⟩ (.take ⟨(some 29), (.ld1 (.tmp 28)), none⟩ (.take ⟨(some 30), (.mv (.tmp 0)), none⟩ (.take ⟨(some 31), (.nilck (.tmp 30)), none⟩ (.take ⟨(some 32), (.fad 0 (.tmp 31)), none⟩ (.take ⟨(some 33), (.ldn 3 (.tmp 32)), none⟩ (.take ⟨(some 34), (.mv (.tmp 0)), none⟩ (.take ⟨(some 35), (.nilck (.tmp 34)), none⟩ (.take ⟨(some 36), (.fad 11 (.tmp 35)), none⟩ (.take ⟨(some 37), (.ld1 (.tmp 36)), none⟩ (.take ⟨(some 39), (.mv (.tmp 0)), none⟩ (.take ⟨(some 40), (.nilck (.tmp 39)), none⟩ (.take ⟨(some 41), (.fad 5 (.tmp 40)), none⟩ (.take ⟨(some 42), (.ld1 (.tmp 41)), none⟩ (.take ⟨(some 43), (.bld #[(.int .i64 0), (.int .i64 0), (.int .i64 0)] [(0, (1, (.const (.int .i64 4)))), (1, (1, (.tmp 42)))]), none⟩ (.alt false ⟨(some 38), (.pcall 27 [(.tmp 33), (.tmp 37)]), none⟩ (.alt false ⟨(some 44), (.pcall 26 [(.tmp 43)]), none⟩ (.alt true ⟨(some 45), (.call 63 [(.tmp 25), (.tmp 29), (.tmp 38), (.tmp 44)]), none⟩ .done .stop) .stop) .stop))))))))))))))))))))
    (.seq (.reg [⟨(some 46), (.mv (.tmp 0)), none⟩, ⟨(some 47), (.nilck (.tmp 46)), none⟩, ⟨(some 48), (.fad 11 (.tmp 47)), none⟩, ⟨(some 49), (.ld1 (.tmp 48)), none⟩, ⟨(some 50), (.ar .add (.tmp 49) (.const (.int .i64 1))), none⟩, ⟨(some 51), (.nilck (.tmp 46)), none⟩, ⟨(some 52), (.fad 11 (.tmp 51)), none⟩, ⟨none, (.st1 (.tmp 52) (.tmp 50)), none⟩])
    (.reg [⟨(some 53), (.mv (.tmp 0)), none⟩, ⟨(some 54), (.call 104 [(.tmp 53)]), none⟩])))))))))))))))))⟩ := by kernel_rfl

/-- allotment/allotmentref8.NewFreer -/
theorem tr51 : trF Try.prog pures Try.f51 = some
  ⟨30, [(.t 6)],
    (.seq (.reg [⟨(some 3), (.box 48 (.tmp 0)), none⟩, ⟨(some 6), (.mv (.const (.pointer none))), none⟩])
    (.seq (.reg [⟨(some 11), (.ldn 3 (.tmp 3)), none⟩, ⟨(some 12), (.mv (.tmp 2)), none⟩, ⟨(some 13), (.pcall 105 [(.tmp 11), (.tmp 12)]), none⟩, ⟨(some 10), (.mv (.tmp 13)), none⟩, ⟨(some 14), (.ext 0 (.tmp 10)), none⟩, ⟨(some 15), (.ext 1 (.tmp 10)), none⟩, ⟨(some 16), (.ext 2 (.tmp 10)), none⟩, ⟨(some 7), (.mv (.tmp 14)), none⟩, ⟨(some 8), (.mv (.tmp 15)), none⟩, ⟨(some 9), (.mv (.tmp 16)), none⟩])
    (.seq (.draw (.take ⟨(some 17), (.ldn 3 (.tmp 3)), none⟩ (.take ⟨(some 18), (.mv (.tmp 1)), none⟩ (.take ⟨(some 19), (.mv (.tmp 2)), none⟩ (.take ⟨(some 20), (.ldn 3 (.tmp 3)), none⟩ (.take ⟨(some 21), (.mv (.tmp 1)), none⟩ (.alt false ⟨(some 22), (.pcall 96 [(.tmp 20), (.tmp 21)]), none⟩ (.take ⟨(some 23), (.nt (.tmp 22)), none⟩ (.take ⟨(some 24), (.mv (.tmp 23)), none⟩ (.take ⟨(some 25), (.mv (.tmp 9)), (some (24, false))⟩ (.take ⟨(some 26), (.nt (.tmp 25)), (some (24, false))⟩ (.take ⟨(some 27), (.pick (.tmp 24) (.const (.bool true)) (.tmp 26)), none⟩ (.take ⟨(some 28), (.bld #[(.int .i64 0), (.int .i64 0), (.int .i64 0), (.int .i64 0), (.int .i64 0), (.bool false), (.bool false), (.int .i64 0), (.bool false), (.int .i64 0), (.int .i64 0), (.int .i64 0), (.int .i64 0), (.bool false), (.int .u64 0), (.pointer none), (.pointer none)] [(0, (3, (.tmp 17))), (3, (1, (.tmp 18))), (4, (1, (.tmp 19))), (6, (1, (.tmp 27)))]), none⟩ (.alt false ⟨(some 29), (.box 96 (.tmp 28)), none⟩ (.take ⟨(some 6), (.mv (.tmp 29)), none⟩ .done) .stop))))))) .stop))))))) .ret)))⟩ := by kernel_rfl

/-- (*allotment/allotmentref8.Freer).Step -/
theorem tr52 : trF Try.prog pures Try.f52 = some
  ⟨75, [],
    (.block 0
    (.seq (.reg [⟨(some 21), (.mv (.tmp 0)), none⟩, ⟨(some 22), (.nilck (.tmp 21)), none⟩, ⟨(some 23), (.fad 6 (.tmp 22)), none⟩, ⟨(some 24), (.ld1 (.tmp 23)), none⟩, ⟨(some 20), (.mv (.tmp 24)), none⟩])
    (.cond (.tmp 20) .skip
    (.seq (.reg [⟨(some 26), (.mv (.tmp 0)), none⟩, ⟨(some 27), (.nilck (.tmp 26)), none⟩, ⟨(some 28), (.fad 7 (.tmp 27)), none⟩, ⟨(some 29), (.ld1 (.tmp 28)), none⟩, ⟨(some 30), (.cmp .eql (.tmp 29) (.const (.int .i64 0))), none⟩, ⟨(some 25), (.mv (.tmp 30)), none⟩])
    (.cond (.tmp 25)
    (.reg [⟨(some 31), (.mv (.tmp 0)), none⟩, ⟨(some 32), (.mv (.tmp 1)), none⟩, ⟨(some 33), (.call 106 [(.tmp 31), (.tmp 32)]), none⟩])
    (.seq (.reg [⟨(some 35), (.mv (.tmp 0)), none⟩, ⟨(some 36), (.nilck (.tmp 35)), none⟩, ⟨(some 37), (.fad 7 (.tmp 36)), none⟩, ⟨(some 38), (.ld1 (.tmp 37)), none⟩, ⟨(some 39), (.cmp .eql (.tmp 38) (.const (.int .i64 1))), none⟩, ⟨(some 34), (.mv (.tmp 39)), none⟩])
    (.cond (.tmp 34)
    (.reg [⟨(some 40), (.mv (.tmp 0)), none⟩, ⟨(some 41), (.mv (.tmp 1)), none⟩, ⟨(some 42), (.call 107 [(.tmp 40), (.tmp 41)]), none⟩])
    (.seq (.reg [⟨(some 44), (.mv (.tmp 0)), none⟩, ⟨(some 45), (.nilck (.tmp 44)), none⟩, ⟨(some 46), (.fad 16 (.tmp 45)), none⟩, ⟨(some 47), (.ld1 (.tmp 46)), none⟩, ⟨(some 48), (.pnil true (.tmp 47)), none⟩, ⟨(some 49), (.mv (.tmp 48)), none⟩, ⟨(some 50), (.mv (.tmp 0)), (some (49, true))⟩, ⟨(some 51), (.nilck (.tmp 50)), (some (49, true))⟩, ⟨(some 52), (.fad 16 (.tmp 51)), (some (49, true))⟩, ⟨(some 53), (.ld1 (.tmp 52)), (some (49, true))⟩, ⟨(some 54), (.nilck (.tmp 53)), (some (49, true))⟩, ⟨(some 55), (.fad 9 (.tmp 54)), (some (49, true))⟩, ⟨(some 56), (.ld1 (.tmp 55)), (some (49, true))⟩, ⟨(some 57), (.nt (.tmp 56)), (some (49, true))⟩, ⟨(some 58), (.pick (.tmp 49) (.tmp 57) (.const (.bool false))), none⟩, ⟨(some 43), (.mv (.tmp 58)), none⟩])
    (.cond (.tmp 43)
    (.seq (.reg [⟨(some 59), (.mv (.tmp 0)), none⟩, ⟨(some 60), (.nilck (.tmp 59)), none⟩, ⟨(some 61), (.fad 16 (.tmp 60)), none⟩, ⟨(some 62), (.ld1 (.tmp 61)), none⟩, ⟨(some 63), (.mv (.tmp 1)), none⟩, ⟨(some 64), (.call 108 [(.tmp 62), (.tmp 63)]), none⟩])
    (.reg [⟨(some 65), (.mv (.tmp 0)), none⟩, ⟨(some 66), (.mv (.tmp 0)), none⟩, ⟨(some 67), (.nilck (.tmp 66)), none⟩, ⟨(some 68), (.fad 16 (.tmp 67)), none⟩, ⟨(some 69), (.ld1 (.tmp 68)), none⟩, ⟨(some 70), (.nilck (.tmp 69)), none⟩, ⟨(some 71), (.fad 8 (.tmp 70)), none⟩, ⟨(some 72), (.ld1 (.tmp 71)), none⟩, ⟨(some 73), (.nilck (.tmp 65)), none⟩, ⟨(some 74), (.fad 6 (.tmp 73)), none⟩, ⟨none, (.st1 (.tmp 74) (.tmp 72)), none⟩]))
    (.seq (.reg [⟨(some 4), (.mv (.tmp 0)), none⟩, ⟨(some 5), (.nilck (.tmp 4)), none⟩, ⟨(some 6), (.fad 15 (.tmp 5)), none⟩, ⟨(some 7), (.ld1 (.tmp 6)), none⟩, ⟨(some 8), (.mv (.tmp 1)), none⟩, ⟨(some 9), (.call 109 [(.tmp 7), (.tmp 8)]), none⟩])
    (.reg [⟨(some 10), (.mv (.tmp 0)), none⟩, ⟨(some 11), (.mv (.tmp 0)), none⟩, ⟨(some 12), (.nilck (.tmp 11)), none⟩, ⟨(some 13), (.fad 15 (.tmp 12)), none⟩, ⟨(some 14), (.ld1 (.tmp 13)), none⟩, ⟨(some 15), (.nilck (.tmp 14)), none⟩, ⟨(some 16), (.fad 10 (.tmp 15)), none⟩, ⟨(some 17), (.ld1 (.tmp 16)), none⟩, ⟨(some 18), (.nilck (.tmp 10)), none⟩, ⟨(some 19), (.fad 6 (.tmp 18)), none⟩, ⟨none, (.st1 (.tmp 19) (.tmp 17)), none⟩])))))))))))⟩ := by kernel_rfl

/-- (*allotment/run.Runner).look -/
theorem tr70 : trF Try.prog pures Try.f70 = some
  ⟨73, [],
    (.seq (.draw (.take ⟨(some 7), (.mv (.tmp 0)), none⟩ (.take ⟨(some 8), (.nilck (.tmp 7)), none⟩ (.take ⟨(some 9), (.fad 0 (.tmp 8)), none⟩ (.take ⟨(some 10), (.ldn 3 (.tmp 9)), none⟩ (.take ⟨(some 11), (.mv (.tmp 0)), none⟩ (.take ⟨(some 12), (.nilck (.tmp 11)), none⟩ (.take ⟨(some 13), (.fad 6 (.tmp 12)), none⟩ (.take ⟨(some 14), (.ld1 (.tmp 13)), none⟩ (.take ⟨(some 15), (.mv (.tmp 1)), none⟩ (.take ⟨(some 16), (.mv (.tmp 0)), none⟩ (.take ⟨(some 17), (.nilck (.tmp 16)), none⟩ (.take ⟨(some 18), (.fad 3 (.tmp 17)), none⟩ (.take ⟨(some 19), (.ld1 (.tmp 18)), none⟩ (.take ⟨(some 20), (.mv (.tmp 0)), none⟩ (.take ⟨(some 21), (.nilck (.tmp 20)), none⟩ (.take ⟨(some 22), (.fad 0 (.tmp 21)), none⟩ (.take ⟨(some 23), (.ldn 3 (.tmp 22)), none⟩ (.take ⟨(some 24), (.mv (.tmp 0)), none⟩ (.take ⟨(some 25), (.nilck (.tmp 24)), none⟩ (.take ⟨(some 26), (.fad 6 (.tmp 25)), none⟩ (.take ⟨(some 27), (.ld1 (.tmp 26)), none⟩ (.alt false ⟨(some 28), (.pcall 71 [(.tmp 23), (.tmp 27)]), none⟩ (.alt false ⟨(some 29), (.call 57 [(.tmp 15), (.tmp 19), (.tmp 28)]), none⟩ (.alt false ⟨(some 30), (.pcall 115 [(.tmp 10), (.tmp 14), (.tmp 29)]), none⟩ (.take ⟨(some 6), (.mv (.tmp 30)), none⟩ (.take ⟨(some 31), (.ext 0 (.tmp 6)), none⟩ (.take ⟨(some 32), (.ext 1 (.tmp 6)), none⟩ (.alt false ⟨(some 4), (.alc 112 (.agg #[(.int .i64 0), (.int .i64 0), (.int .i64 0)])), none⟩ (.alt false ⟨none, (.stn 3 (.tmp 4) (.tmp 31)), none⟩ (.take ⟨(some 5), (.mv (.tmp 32)), none⟩ .done) .stop) .stop)))) (.alt false ⟨(some 4), (.alc 112 (.agg #[(.int .i64 0), (.int .i64 0), (.int .i64 0)])), none⟩ (.alt false ⟨(some 30), (.pcall 115 [(.tmp 10), (.tmp 14), (.tmp 29)]), none⟩ (.take ⟨(some 6), (.mv (.tmp 30)), none⟩ (.take ⟨(some 31), (.ext 0 (.tmp 6)), none⟩ (.take ⟨(some 32), (.ext 1 (.tmp 6)), none⟩ (.alt false ⟨none, (.stn 3 (.tmp 4) (.tmp 31)), none⟩ (.take ⟨(some 5), (.mv (.tmp 32)), none⟩ .done) .stop)))) .stop) .stop)) (.alt false ⟨(some 4), (.alc 112 (.agg #[(.int .i64 0), (.int .i64 0), (.int .i64 0)])), none⟩ (.alt false ⟨(some 29), (.call 57 [(.tmp 15), (.tmp 19), (.tmp 28)]), none⟩ (.alt false ⟨(some 30), (.pcall 115 [(.tmp 10), (.tmp 14), (.tmp 29)]), none⟩ (.take ⟨(some 6), (.mv (.tmp 30)), none⟩ (.take ⟨(some 31), (.ext 0 (.tmp 6)), none⟩ (.take ⟨(some 32), (.ext 1 (.tmp 6)), none⟩ (.alt false ⟨none, (.stn 3 (.tmp 4) (.tmp 31)), none⟩ (.take ⟨(some 5), (.mv (.tmp 32)), none⟩ .done) .stop)))) .stop) .stop) .stop)) (.alt false ⟨(some 4), (.alc 112 (.agg #[(.int .i64 0), (.int .i64 0), (.int .i64 0)])), none⟩ (.alt false ⟨(some 28), (.pcall 71 [(.tmp 23), (.tmp 27)]), none⟩ (.alt false ⟨(some 29), (.call 57 [(.tmp 15), (.tmp 19), (.tmp 28)]), none⟩ (.alt false ⟨(some 30), (.pcall 115 [(.tmp 10), (.tmp 14), (.tmp 29)]), none⟩ (.take ⟨(some 6), (.mv (.tmp 30)), none⟩ (.take ⟨(some 31), (.ext 0 (.tmp 6)), none⟩ (.take ⟨(some 32), (.ext 1 (.tmp 6)), none⟩ (.alt false ⟨none, (.stn 3 (.tmp 4) (.tmp 31)), none⟩ (.take ⟨(some 5), (.mv (.tmp 32)), none⟩ .done) .stop)))) .stop) .stop) .stop) .stop))))))))))))))))))))))))
    (.block 0
    (.seq (.reg [⟨(some 36), (.mv (.tmp 5)), none⟩, ⟨(some 37), (.mv (.tmp 36)), none⟩, ⟨(some 38), (.fad 0 (.tmp 4)), (some (37, true))⟩, ⟨(some 39), (.ld1 (.tmp 38)), (some (37, true))⟩, ⟨(some 40), (.cmp .eql (.tmp 39) (.const (.int .i64 0))), (some (37, true))⟩, ⟨(some 41), (.pick (.tmp 37) (.tmp 40) (.const (.bool false))), none⟩, ⟨(some 35), (.mv (.tmp 41)), none⟩])
    (.cond (.tmp 35)
    (.reg [⟨(some 42), (.mv (.tmp 0)), none⟩, ⟨(some 43), (.nilck (.tmp 42)), none⟩, ⟨(some 44), (.fad 8 (.tmp 43)), none⟩, ⟨none, (.st1 (.tmp 44) (.const (.int .i64 1))), none⟩])
    (.seq (.reg [⟨(some 46), (.mv (.tmp 5)), none⟩, ⟨(some 47), (.mv (.tmp 46)), none⟩, ⟨(some 48), (.fad 0 (.tmp 4)), (some (47, true))⟩, ⟨(some 49), (.ld1 (.tmp 48)), (some (47, true))⟩, ⟨(some 50), (.cmp .eql (.tmp 49) (.const (.int .i64 2))), (some (47, true))⟩, ⟨(some 51), (.pick (.tmp 47) (.tmp 50) (.const (.bool false))), none⟩, ⟨(some 45), (.mv (.tmp 51)), none⟩])
    (.cond (.tmp 45)
    (.draw (.take ⟨(some 52), (.mv (.tmp 0)), none⟩ (.take ⟨(some 53), (.mv (.tmp 0)), none⟩ (.take ⟨(some 54), (.mv (.tmp 0)), none⟩ (.take ⟨(some 55), (.nilck (.tmp 54)), none⟩ (.take ⟨(some 56), (.fad 0 (.tmp 55)), none⟩ (.take ⟨(some 57), (.ldn 3 (.tmp 56)), none⟩ (.take ⟨(some 58), (.mv (.tmp 0)), none⟩ (.take ⟨(some 59), (.nilck (.tmp 58)), none⟩ (.take ⟨(some 60), (.fad 3 (.tmp 59)), none⟩ (.take ⟨(some 61), (.ld1 (.tmp 60)), none⟩ (.take ⟨(some 62), (.mv (.tmp 0)), none⟩ (.take ⟨(some 63), (.nilck (.tmp 62)), none⟩ (.take ⟨(some 64), (.fad 6 (.tmp 63)), none⟩ (.take ⟨(some 65), (.ld1 (.tmp 64)), none⟩ (.take ⟨(some 66), (.fad 1 (.tmp 4)), none⟩ (.take ⟨(some 67), (.ld1 (.tmp 66)), none⟩ (.alt false ⟨(some 68), (.call 116 [(.tmp 57), (.tmp 61), (.tmp 65), (.tmp 67)]), none⟩ (.take ⟨(some 69), (.nilck (.tmp 52)), none⟩ (.take ⟨(some 70), (.fad 8 (.tmp 69)), none⟩ (.alt false ⟨none, (.st1 (.tmp 70) (.const (.int .i64 2))), none⟩ (.take ⟨(some 71), (.nilck (.tmp 53)), none⟩ (.take ⟨(some 72), (.fad 9 (.tmp 71)), none⟩ (.alt true ⟨none, (.st1 (.tmp 72) (.tmp 68)), none⟩ .done .stop))) .stop))) .stop))))))))))))))))))
    (.reg [⟨(some 33), (.mv (.tmp 0)), none⟩, ⟨(some 34), (.call 74 [(.tmp 33)]), none⟩])))))))⟩ := by kernel_rfl

/-- (*allotment/run.Runner).own -/
theorem tr73 : trF Try.prog pures Try.f73 = some
  ⟨38, [],
    (.seq (.reg [⟨(some 2), (.mv (.tmp 0)), none⟩, ⟨(some 3), (.nilck (.tmp 2)), none⟩, ⟨(some 4), (.fad 6 (.tmp 3)), none⟩, ⟨(some 5), (.ld1 (.tmp 4)), none⟩, ⟨(some 6), (.ar .add (.tmp 5) (.const (.int .i64 1))), none⟩, ⟨(some 7), (.nilck (.tmp 2)), none⟩, ⟨(some 8), (.fad 6 (.tmp 7)), none⟩, ⟨none, (.st1 (.tmp 8) (.tmp 6)), none⟩])
    (.seq (.reg [⟨(some 9), (.mv (.tmp 0)), none⟩, ⟨(some 10), (.nilck (.tmp 9)), none⟩, ⟨(some 11), (.fad 8 (.tmp 10)), none⟩, ⟨none, (.st1 (.tmp 11) (.const (.int .i64 0))), none⟩])
    (.seq (.reg [⟨(some 12), (.mv (.tmp 0)), none⟩, ⟨(some 13), (.nilck (.tmp 12)), none⟩, ⟨(some 14), (.fad 6 (.tmp 13)), none⟩, ⟨(some 15), (.ld1 (.tmp 14)), none⟩, ⟨(some 16), (.mv (.tmp 0)), none⟩, ⟨(some 17), (.nilck (.tmp 16)), none⟩, ⟨(some 18), (.fad 5 (.tmp 17)), none⟩, ⟨(some 19), (.ld1 (.tmp 18)), none⟩, ⟨(some 20), (.mv (.tmp 0)), none⟩, ⟨(some 21), (.nilck (.tmp 20)), none⟩, ⟨(some 22), (.fad 4 (.tmp 21)), none⟩, ⟨(some 23), (.ld1 (.tmp 22)), none⟩, ⟨(some 24), (.ar .add (.tmp 19) (.tmp 23)), none⟩, ⟨(some 25), (.cmp .eql (.tmp 15) (.tmp 24)), none⟩])
    (.cond (.tmp 25)
    (.seq (.reg [⟨(some 26), (.mv (.tmp 0)), none⟩, ⟨(some 27), (.mv (.tmp 0)), none⟩, ⟨(some 28), (.mv (.tmp 0)), none⟩, ⟨(some 29), (.nilck (.tmp 28)), none⟩, ⟨(some 30), (.fad 5 (.tmp 29)), none⟩, ⟨(some 31), (.ld1 (.tmp 30)), none⟩, ⟨(some 32), (.nilck (.tmp 26)), none⟩, ⟨(some 33), (.fad 8 (.tmp 32)), none⟩, ⟨none, (.st1 (.tmp 33) (.const (.int .i64 5))), none⟩, ⟨(some 34), (.nilck (.tmp 27)), none⟩, ⟨(some 35), (.fad 7 (.tmp 34)), none⟩, ⟨none, (.st1 (.tmp 35) (.tmp 31)), none⟩])
    (.reg [⟨(some 36), (.mv (.tmp 0)), none⟩, ⟨(some 37), (.call 81 [(.tmp 36)]), none⟩])) .skip))))⟩ := by kernel_rfl

/-- (*allotment/run.Runner).miss -/
theorem tr74 : trF Try.prog pures Try.f74 = some
  ⟨14, [],
    (.seq (.reg [⟨(some 2), (.mv (.tmp 0)), none⟩, ⟨(some 3), (.mv (.tmp 0)), none⟩, ⟨(some 4), (.mv (.tmp 0)), none⟩, ⟨(some 5), (.nilck (.tmp 4)), none⟩, ⟨(some 6), (.fad 6 (.tmp 5)), none⟩, ⟨(some 7), (.ld1 (.tmp 6)), none⟩, ⟨(some 8), (.nilck (.tmp 2)), none⟩, ⟨(some 9), (.fad 8 (.tmp 8)), none⟩, ⟨none, (.st1 (.tmp 9) (.const (.int .i64 4))), none⟩, ⟨(some 10), (.nilck (.tmp 3)), none⟩, ⟨(some 11), (.fad 7 (.tmp 10)), none⟩, ⟨none, (.st1 (.tmp 11) (.tmp 7)), none⟩])
    (.reg [⟨(some 12), (.mv (.tmp 0)), none⟩, ⟨(some 13), (.call 80 [(.tmp 12)]), none⟩]))⟩ := by kernel_rfl

/-- (*allotment/strip.Stripper).Step -/
theorem tr75 : trF Try.prog pures Try.f75 = some
  ⟨143, [],
    (.seq (.seq
    (.reg [⟨(some 5), (.mv (.tmp 0)), none⟩, ⟨(some 6), (.pnil false (.tmp 5)), none⟩, ⟨(some 7), (.mv (.tmp 6)), none⟩, ⟨(some 8), (.mv (.tmp 0)), (some (7, false))⟩, ⟨(some 9), (.nilck (.tmp 8)), (some (7, false))⟩, ⟨(some 10), (.fad 9 (.tmp 9)), (some (7, false))⟩, ⟨(some 11), (.ld1 (.tmp 10)), (some (7, false))⟩, ⟨(some 12), (.pick (.tmp 7) (.const (.bool true)) (.tmp 11)), none⟩])
    (.cond (.tmp 12) .ret .skip))
    (.seq (.reg [⟨(some 13), (.mv (.tmp 0)), none⟩, ⟨(some 14), (.nilck (.tmp 13)), none⟩, ⟨(some 15), (.fad 5 (.tmp 14)), none⟩, ⟨(some 16), (.ld1 (.tmp 15)), none⟩, ⟨(some 17), (.bld #[(.int .i64 0), (.int .i64 0)] [(0, (1, (.const (.int .i64 1)))), (1, (1, (.tmp 16)))]), none⟩, ⟨(some 18), (.pcall 87 [(.tmp 17)]), none⟩, ⟨(some 4), (.mv (.tmp 18)), none⟩])
    (.block 0
    (.seq (.reg [⟨(some 31), (.mv (.tmp 0)), none⟩, ⟨(some 32), (.nilck (.tmp 31)), none⟩, ⟨(some 33), (.fad 7 (.tmp 32)), none⟩, ⟨(some 34), (.ld1 (.tmp 33)), none⟩, ⟨(some 30), (.mv (.tmp 34)), none⟩])
    (.cond (.tmp 30)
    (.seq (.draw (.take ⟨(some 35), (.mv (.tmp 1)), none⟩ (.take ⟨(some 36), (.mv (.tmp 0)), none⟩ (.take ⟨(some 37), (.nilck (.tmp 36)), none⟩ (.take ⟨(some 38), (.fad 3 (.tmp 37)), none⟩ (.take ⟨(some 39), (.ld1 (.tmp 38)), none⟩ (.take ⟨(some 40), (.mv (.tmp 0)), none⟩ (.take ⟨(some 41), (.nilck (.tmp 40)), none⟩ (.take ⟨(some 42), (.fad 0 (.tmp 41)), none⟩ (.take ⟨(some 43), (.ldn 3 (.tmp 42)), none⟩ (.take ⟨(some 44), (.mv (.tmp 0)), none⟩ (.take ⟨(some 45), (.nilck (.tmp 44)), none⟩ (.take ⟨(some 46), (.fad 4 (.tmp 45)), none⟩ (.take ⟨(some 47), (.ld1 (.tmp 46)), none⟩ (.take ⟨(some 48), (.mv (.tmp 0)), none⟩ (.take ⟨(some 49), (.nilck (.tmp 48)), none⟩ (.take ⟨(some 50), (.fad 6 (.tmp 49)), none⟩ (.take ⟨(some 51), (.ld1 (.tmp 50)), none⟩ (.take ⟨(some 52), (.ar .sub (.tmp 51) (.const (.int .i64 1))), none⟩ (.take ⟨(some 54), (.mv (.tmp 4)), none⟩ (.alt false ⟨(some 53), (.pcall 78 [(.tmp 43), (.tmp 47), (.tmp 52)]), none⟩ (.alt true ⟨(some 55), (.call 62 [(.tmp 35), (.tmp 39), (.tmp 53), (.tmp 54)]), none⟩ .done .stop) .stop)))))))))))))))))))))
    (.seq (.reg [⟨(some 56), (.mv (.tmp 0)), none⟩, ⟨(some 57), (.nilck (.tmp 56)), none⟩, ⟨(some 58), (.fad 6 (.tmp 57)), none⟩, ⟨(some 59), (.ld1 (.tmp 58)), none⟩, ⟨(some 60), (.ar .sub (.tmp 59) (.const (.int .i64 1))), none⟩, ⟨(some 61), (.nilck (.tmp 56)), none⟩, ⟨(some 62), (.fad 6 (.tmp 61)), none⟩, ⟨none, (.st1 (.tmp 62) (.tmp 60)), none⟩])
    (.reg [⟨(some 63), (.mv (.tmp 0)), none⟩, ⟨(some 64), (.mv (.tmp 0)), none⟩, ⟨(some 65), (.nilck (.tmp 64)), none⟩, ⟨(some 66), (.fad 6 (.tmp 65)), none⟩, ⟨(some 67), (.ld1 (.tmp 66)), none⟩, ⟨(some 68), (.cmp .eql (.tmp 67) (.const (.int .i64 0))), none⟩, ⟨(some 69), (.nilck (.tmp 63)), none⟩, ⟨(some 70), (.fad 9 (.tmp 69)), none⟩, ⟨none, (.st1 (.tmp 70) (.tmp 68)), none⟩])))
    (.seq (.reg [⟨(some 72), (.mv (.tmp 0)), none⟩, ⟨(some 73), (.nilck (.tmp 72)), none⟩, ⟨(some 74), (.fad 6 (.tmp 73)), none⟩, ⟨(some 75), (.ld1 (.tmp 74)), none⟩, ⟨(some 76), (.mv (.tmp 0)), none⟩, ⟨(some 77), (.nilck (.tmp 76)), none⟩, ⟨(some 78), (.fad 5 (.tmp 77)), none⟩, ⟨(some 79), (.ld1 (.tmp 78)), none⟩, ⟨(some 80), (.pcall 118 [(.tmp 79)]), none⟩, ⟨(some 81), (.cmp .eql (.tmp 75) (.tmp 80)), none⟩, ⟨(some 71), (.mv (.tmp 81)), none⟩])
    (.cond (.tmp 71)
    (.seq (.draw (.take ⟨(some 82), (.mv (.tmp 1)), none⟩ (.take ⟨(some 83), (.mv (.tmp 0)), none⟩ (.take ⟨(some 84), (.nilck (.tmp 83)), none⟩ (.take ⟨(some 85), (.fad 3 (.tmp 84)), none⟩ (.take ⟨(some 86), (.ld1 (.tmp 85)), none⟩ (.take ⟨(some 87), (.mv (.tmp 0)), none⟩ (.take ⟨(some 88), (.nilck (.tmp 87)), none⟩ (.take ⟨(some 89), (.fad 0 (.tmp 88)), none⟩ (.take ⟨(some 90), (.ldn 3 (.tmp 89)), none⟩ (.take ⟨(some 91), (.mv (.tmp 0)), none⟩ (.take ⟨(some 92), (.nilck (.tmp 91)), none⟩ (.take ⟨(some 93), (.fad 4 (.tmp 92)), none⟩ (.take ⟨(some 94), (.ld1 (.tmp 93)), none⟩ (.take ⟨(some 96), (.mv (.tmp 0)), none⟩ (.take ⟨(some 97), (.nilck (.tmp 96)), none⟩ (.take ⟨(some 98), (.fad 3 (.tmp 97)), none⟩ (.take ⟨(some 99), (.ld1 (.tmp 98)), none⟩ (.take ⟨(some 100), (.bld #[(.int .i64 0), (.int .i64 0), (.int .i64 0)] [(0, (1, (.const (.int .i64 1)))), (1, (1, (.tmp 99)))]), none⟩ (.alt false ⟨(some 95), (.pcall 71 [(.tmp 90), (.tmp 94)]), none⟩ (.alt false ⟨(some 101), (.pcall 72 [(.tmp 100)]), none⟩ (.alt true ⟨(some 102), (.call 62 [(.tmp 82), (.tmp 86), (.tmp 95), (.tmp 101)]), none⟩ .done .stop) .stop) .stop))))))))))))))))))))
    (.reg [⟨(some 103), (.mv (.tmp 0)), none⟩, ⟨(some 104), (.mv (.tmp 0)), none⟩, ⟨(some 105), (.nilck (.tmp 103)), none⟩, ⟨(some 106), (.fad 8 (.tmp 105)), none⟩, ⟨none, (.st1 (.tmp 106) (.const (.bool true))), none⟩, ⟨(some 107), (.nilck (.tmp 104)), none⟩, ⟨(some 108), (.fad 9 (.tmp 107)), none⟩, ⟨none, (.st1 (.tmp 108) (.const (.bool true))), none⟩]))
    (.seq (.draw (.take ⟨(some 110), (.mv (.tmp 1)), none⟩ (.take ⟨(some 111), (.mv (.tmp 0)), none⟩ (.take ⟨(some 112), (.nilck (.tmp 111)), none⟩ (.take ⟨(some 113), (.fad 3 (.tmp 112)), none⟩ (.take ⟨(some 114), (.ld1 (.tmp 113)), none⟩ (.take ⟨(some 115), (.mv (.tmp 0)), none⟩ (.take ⟨(some 116), (.nilck (.tmp 115)), none⟩ (.take ⟨(some 117), (.fad 0 (.tmp 116)), none⟩ (.take ⟨(some 118), (.ldn 3 (.tmp 117)), none⟩ (.take ⟨(some 119), (.mv (.tmp 0)), none⟩ (.take ⟨(some 120), (.nilck (.tmp 119)), none⟩ (.take ⟨(some 121), (.fad 4 (.tmp 120)), none⟩ (.take ⟨(some 122), (.ld1 (.tmp 121)), none⟩ (.take ⟨(some 123), (.mv (.tmp 0)), none⟩ (.take ⟨(some 124), (.nilck (.tmp 123)), none⟩ (.take ⟨(some 125), (.fad 6 (.tmp 124)), none⟩ (.take ⟨(some 126), (.ld1 (.tmp 125)), none⟩ (.take ⟨(some 128), (.mv (.tmp 4)), none⟩ (.take ⟨(some 129), (.mv (.tmp 0)), none⟩ (.take ⟨(some 130), (.nilck (.tmp 129)), none⟩ (.take ⟨(some 131), (.fad 3 (.tmp 130)), none⟩ (.take ⟨(some 132), (.ld1 (.tmp 131)), none⟩ (.take ⟨(some 133), (.bld #[(.int .i64 0), (.int .i64 0)] [(0, (1, (.const (.int .i64 2)))), (1, (1, (.tmp 132)))]), none⟩ (.alt false ⟨(some 127), (.pcall 78 [(.tmp 118), (.tmp 122), (.tmp 126)]), none⟩ (.alt false ⟨(some 134), (.pcall 87 [(.tmp 133)]), none⟩ (.alt false ⟨(some 135), (.call 55 [(.tmp 110), (.tmp 114), (.tmp 127), (.tmp 128), (.tmp 134)]), none⟩ (.take ⟨(some 109), (.mv (.tmp 135)), none⟩ .done) .stop) .stop) .stop)))))))))))))))))))))))))
    (.cond (.tmp 109)
    (.reg [⟨(some 136), (.mv (.tmp 0)), none⟩, ⟨(some 137), (.nilck (.tmp 136)), none⟩, ⟨(some 138), (.fad 6 (.tmp 137)), none⟩, ⟨(some 139), (.ld1 (.tmp 138)), none⟩, ⟨(some 140), (.ar .add (.tmp 139) (.const (.int .i64 1))), none⟩, ⟨(some 141), (.nilck (.tmp 136)), none⟩, ⟨(some 142), (.fad 6 (.tmp 141)), none⟩, ⟨none, (.st1 (.tmp 142) (.tmp 140)), none⟩])
    (.reg [⟨(some 19), (.mv (.tmp 0)), none⟩, ⟨(some 20), (.mv (.tmp 0)), none⟩, ⟨(some 21), (.mv (.tmp 0)), none⟩, ⟨(some 22), (.nilck (.tmp 21)), none⟩, ⟨(some 23), (.fad 6 (.tmp 22)), none⟩, ⟨(some 24), (.ld1 (.tmp 23)), none⟩, ⟨(some 25), (.cmp .eql (.tmp 24) (.const (.int .i64 0))), none⟩, ⟨(some 26), (.nilck (.tmp 19)), none⟩, ⟨(some 27), (.fad 7 (.tmp 26)), none⟩, ⟨none, (.st1 (.tmp 27) (.const (.bool true))), none⟩, ⟨(some 28), (.nilck (.tmp 20)), none⟩, ⟨(some 29), (.fad 9 (.tmp 28)), none⟩, ⟨none, (.st1 (.tmp 29) (.tmp 25)), none⟩]))))))))))⟩ := by kernel_rfl

/-- (*allotment/strip.Stripper).Held -/
theorem tr76 : trF Try.prog pures Try.f76 = some
  ⟨11, [(.t 2)],
    (.seq (.reg [⟨(some 2), (.mv (.const (.bool false))), none⟩])
    (.seq (.reg [⟨(some 3), (.mv (.tmp 0)), none⟩, ⟨(some 4), (.pnil true (.tmp 3)), none⟩, ⟨(some 5), (.mv (.tmp 4)), none⟩, ⟨(some 6), (.mv (.tmp 0)), (some (5, true))⟩, ⟨(some 7), (.nilck (.tmp 6)), (some (5, true))⟩, ⟨(some 8), (.fad 8 (.tmp 7)), (some (5, true))⟩, ⟨(some 9), (.ld1 (.tmp 8)), (some (5, true))⟩, ⟨(some 10), (.pick (.tmp 5) (.tmp 9) (.const (.bool false))), none⟩, ⟨(some 2), (.mv (.tmp 10)), none⟩]) .ret))⟩ := by kernel_rfl

/-- (*allotment/strip.Stripper).Done -/
theorem tr77 : trF Try.prog pures Try.f77 = some
  ⟨11, [(.t 2)],
    (.seq (.reg [⟨(some 2), (.mv (.const (.bool false))), none⟩])
    (.seq (.reg [⟨(some 3), (.mv (.tmp 0)), none⟩, ⟨(some 4), (.pnil true (.tmp 3)), none⟩, ⟨(some 5), (.mv (.tmp 4)), none⟩, ⟨(some 6), (.mv (.tmp 0)), (some (5, true))⟩, ⟨(some 7), (.nilck (.tmp 6)), (some (5, true))⟩, ⟨(some 8), (.fad 9 (.tmp 7)), (some (5, true))⟩, ⟨(some 9), (.ld1 (.tmp 8)), (some (5, true))⟩, ⟨(some 10), (.pick (.tmp 5) (.tmp 9) (.const (.bool false))), none⟩, ⟨(some 2), (.mv (.tmp 10)), none⟩]) .ret))⟩ := by kernel_rfl

/-- (*allotment/run.Runner).set -/
theorem tr79 : trF Try.prog pures Try.f79 = some
  ⟨22, [],
    (.seq (.reg [⟨(some 7), (.box 112 (.tmp 3)), none⟩])
    (.draw (.take ⟨(some 8), (.mv (.tmp 1)), none⟩ (.take ⟨(some 9), (.mv (.tmp 0)), none⟩ (.take ⟨(some 10), (.nilck (.tmp 9)), none⟩ (.take ⟨(some 11), (.fad 3 (.tmp 10)), none⟩ (.take ⟨(some 12), (.ld1 (.tmp 11)), none⟩ (.take ⟨(some 13), (.mv (.tmp 0)), none⟩ (.take ⟨(some 14), (.nilck (.tmp 13)), none⟩ (.take ⟨(some 15), (.fad 0 (.tmp 14)), none⟩ (.take ⟨(some 16), (.ldn 3 (.tmp 15)), none⟩ (.take ⟨(some 17), (.mv (.tmp 2)), none⟩ (.take ⟨(some 19), (.ldn 3 (.tmp 7)), none⟩ (.alt false ⟨(some 18), (.pcall 71 [(.tmp 16), (.tmp 17)]), none⟩ (.alt false ⟨(some 20), (.pcall 72 [(.tmp 19)]), none⟩ (.alt true ⟨(some 21), (.call 62 [(.tmp 8), (.tmp 12), (.tmp 18), (.tmp 20)]), none⟩ .done .stop) .stop) .stop))))))))))))))⟩ := by kernel_rfl

/-- (*allotment/run.Runner).gone -/
theorem tr80 : trF Try.prog pures Try.f80 = some
  ⟨46, [],
    (.seq (.seq
    (.reg [⟨(some 2), (.mv (.tmp 0)), none⟩, ⟨(some 3), (.nilck (.tmp 2)), none⟩, ⟨(some 4), (.fad 7 (.tmp 3)), none⟩, ⟨(some 5), (.ld1 (.tmp 4)), none⟩, ⟨(some 6), (.mv (.tmp 0)), none⟩, ⟨(some 7), (.nilck (.tmp 6)), none⟩, ⟨(some 8), (.fad 5 (.tmp 7)), none⟩, ⟨(some 9), (.ld1 (.tmp 8)), none⟩, ⟨(some 10), (.cmp .gtr (.tmp 5) (.tmp 9)), none⟩])
    (.cond (.tmp 10) .ret .skip))
    (.seq (.reg [⟨(some 11), (.mv (.tmp 0)), none⟩, ⟨(some 12), (.nilck (.tmp 11)), none⟩, ⟨(some 13), (.fad 6 (.tmp 12)), none⟩, ⟨(some 14), (.ld1 (.tmp 13)), none⟩, ⟨(some 15), (.ar .add (.tmp 14) (.const (.int .i64 1))), none⟩, ⟨(some 16), (.nilck (.tmp 11)), none⟩, ⟨(some 17), (.fad 6 (.tmp 16)), none⟩, ⟨none, (.st1 (.tmp 17) (.tmp 15)), none⟩])
    (.seq (.reg [⟨(some 18), (.mv (.tmp 0)), none⟩, ⟨(some 19), (.mv (.tmp 0)), none⟩, ⟨(some 20), (.mv (.tmp 0)), none⟩, ⟨(some 21), (.nilck (.tmp 20)), none⟩, ⟨(some 22), (.fad 6 (.tmp 21)), none⟩, ⟨(some 23), (.ld1 (.tmp 22)), none⟩, ⟨(some 24), (.nilck (.tmp 18)), none⟩, ⟨(some 25), (.fad 5 (.tmp 24)), none⟩, ⟨none, (.st1 (.tmp 25) (.tmp 23)), none⟩, ⟨(some 26), (.nilck (.tmp 19)), none⟩, ⟨(some 27), (.fad 8 (.tmp 26)), none⟩, ⟨none, (.st1 (.tmp 27) (.const (.int .i64 0))), none⟩])
    (.draw (.take ⟨(some 28), (.mv (.tmp 0)), none⟩ (.take ⟨(some 29), (.mv (.tmp 0)), none⟩ (.take ⟨(some 30), (.nilck (.tmp 29)), none⟩ (.take ⟨(some 31), (.fad 5 (.tmp 30)), none⟩ (.take ⟨(some 32), (.ld1 (.tmp 31)), none⟩ (.take ⟨(some 33), (.mv (.tmp 0)), none⟩ (.take ⟨(some 34), (.nilck (.tmp 33)), none⟩ (.take ⟨(some 35), (.fad 0 (.tmp 34)), none⟩ (.take ⟨(some 36), (.fad 0 (.tmp 35)), none⟩ (.take ⟨(some 37), (.ld1 (.tmp 36)), none⟩ (.take ⟨(some 38), (.mv (.tmp 0)), none⟩ (.take ⟨(some 39), (.nilck (.tmp 38)), none⟩ (.take ⟨(some 40), (.fad 4 (.tmp 39)), none⟩ (.take ⟨(some 41), (.ld1 (.tmp 40)), none⟩ (.take ⟨(some 42), (.ar .sub (.tmp 37) (.tmp 41)), none⟩ (.take ⟨(some 43), (.cmp .gtr (.tmp 32) (.tmp 42)), none⟩ (.take ⟨(some 44), (.nilck (.tmp 28)), none⟩ (.take ⟨(some 45), (.fad 11 (.tmp 44)), none⟩ (.alt true ⟨none, (.st1 (.tmp 45) (.tmp 43)), none⟩ .done .stop)))))))))))))))))))))))⟩ := by kernel_rfl

/-- (*allotment/run.Runner).written -/
theorem tr81 : trF Try.prog pures Try.f81 = some
  ⟨29, [],
    (.seq (.reg [⟨(some 2), (.mv (.tmp 0)), none⟩, ⟨(some 3), (.nilck (.tmp 2)), none⟩, ⟨(some 4), (.fad 7 (.tmp 3)), none⟩, ⟨(some 5), (.ld1 (.tmp 4)), none⟩, ⟨(some 6), (.ar .add (.tmp 5) (.const (.int .i64 1))), none⟩, ⟨(some 7), (.nilck (.tmp 2)), none⟩, ⟨(some 8), (.fad 7 (.tmp 7)), none⟩, ⟨none, (.st1 (.tmp 8) (.tmp 6)), none⟩])
    (.seq (.reg [⟨(some 9), (.mv (.tmp 0)), none⟩, ⟨(some 10), (.nilck (.tmp 9)), none⟩, ⟨(some 11), (.fad 7 (.tmp 10)), none⟩, ⟨(some 12), (.ld1 (.tmp 11)), none⟩, ⟨(some 13), (.mv (.tmp 0)), none⟩, ⟨(some 14), (.nilck (.tmp 13)), none⟩, ⟨(some 15), (.fad 5 (.tmp 14)), none⟩, ⟨(some 16), (.ld1 (.tmp 15)), none⟩, ⟨(some 17), (.mv (.tmp 0)), none⟩, ⟨(some 18), (.nilck (.tmp 17)), none⟩, ⟨(some 19), (.fad 4 (.tmp 18)), none⟩, ⟨(some 20), (.ld1 (.tmp 19)), none⟩, ⟨(some 21), (.ar .add (.tmp 16) (.tmp 20)), none⟩, ⟨(some 22), (.cmp .eql (.tmp 12) (.tmp 21)), none⟩])
    (.cond (.tmp 22)
    (.reg [⟨(some 23), (.mv (.tmp 0)), none⟩, ⟨(some 24), (.mv (.tmp 0)), none⟩, ⟨(some 25), (.nilck (.tmp 23)), none⟩, ⟨(some 26), (.fad 10 (.tmp 25)), none⟩, ⟨none, (.st1 (.tmp 26) (.const (.bool true))), none⟩, ⟨(some 27), (.nilck (.tmp 24)), none⟩, ⟨(some 28), (.fad 11 (.tmp 27)), none⟩, ⟨none, (.st1 (.tmp 28) (.const (.bool true))), none⟩]) .skip)))⟩ := by kernel_rfl

/-- (*allotment/give.Freer).look -/
theorem tr83 : trF Try.prog pures Try.f83 = some
  ⟨100, [],
    (.seq (.reg [⟨(some 10), (.mv (.tmp 0)), none⟩, ⟨(some 11), (.nilck (.tmp 10)), none⟩, ⟨(some 12), (.fad 0 (.tmp 11)), none⟩, ⟨(some 13), (.ldn 3 (.tmp 12)), none⟩, ⟨(some 14), (.mv (.tmp 0)), none⟩, ⟨(some 15), (.nilck (.tmp 14)), none⟩, ⟨(some 16), (.fad 4 (.tmp 15)), none⟩, ⟨(some 17), (.ld1 (.tmp 16)), none⟩, ⟨(some 18), (.pcall 82 [(.tmp 13), (.tmp 17)]), none⟩, ⟨(some 9), (.mv (.tmp 18)), none⟩, ⟨(some 19), (.ext 0 (.tmp 9)), none⟩, ⟨(some 20), (.ext 1 (.tmp 9)), none⟩, ⟨(some 21), (.ext 2 (.tmp 9)), none⟩, ⟨(some 4), (.mv (.tmp 19)), none⟩, ⟨(some 5), (.mv (.tmp 20)), none⟩, ⟨(some 6), (.mv (.tmp 21)), none⟩])
    (.seq (.draw (.take ⟨(some 22), (.mv (.tmp 0)), none⟩ (.take ⟨(some 23), (.mv (.tmp 1)), none⟩ (.take ⟨(some 24), (.mv (.tmp 0)), none⟩ (.take ⟨(some 25), (.nilck (.tmp 24)), none⟩ (.take ⟨(some 26), (.fad 3 (.tmp 25)), none⟩ (.take ⟨(some 27), (.ld1 (.tmp 26)), none⟩ (.take ⟨(some 28), (.mv (.tmp 0)), none⟩ (.take ⟨(some 29), (.nilck (.tmp 28)), none⟩ (.take ⟨(some 30), (.fad 0 (.tmp 29)), none⟩ (.take ⟨(some 31), (.ldn 3 (.tmp 30)), none⟩ (.take ⟨(some 32), (.mv (.tmp 0)), none⟩ (.take ⟨(some 33), (.nilck (.tmp 32)), none⟩ (.take ⟨(some 34), (.fad 5 (.tmp 33)), none⟩ (.take ⟨(some 35), (.ld1 (.tmp 34)), none⟩ (.alt false ⟨(some 36), (.pcall 71 [(.tmp 31), (.tmp 35)]), none⟩ (.alt false ⟨(some 37), (.call 57 [(.tmp 23), (.tmp 27), (.tmp 36)]), none⟩ (.take ⟨(some 38), (.nilck (.tmp 22)), none⟩ (.take ⟨(some 39), (.fad 7 (.tmp 38)), none⟩ (.alt true ⟨none, (.st1 (.tmp 39) (.tmp 37)), none⟩ .done .stop))) .stop) .stop))))))))))))))))
    (.seq (.draw (.take ⟨(some 41), (.mv (.tmp 0)), none⟩ (.take ⟨(some 42), (.nilck (.tmp 41)), none⟩ (.take ⟨(some 43), (.fad 0 (.tmp 42)), none⟩ (.take ⟨(some 44), (.ldn 3 (.tmp 43)), none⟩ (.take ⟨(some 45), (.mv (.tmp 0)), none⟩ (.take ⟨(some 46), (.nilck (.tmp 45)), none⟩ (.take ⟨(some 47), (.fad 5 (.tmp 46)), none⟩ (.take ⟨(some 48), (.ld1 (.tmp 47)), none⟩ (.take ⟨(some 49), (.mv (.tmp 0)), none⟩ (.take ⟨(some 50), (.nilck (.tmp 49)), none⟩ (.take ⟨(some 51), (.fad 7 (.tmp 50)), none⟩ (.take ⟨(some 52), (.ld1 (.tmp 51)), none⟩ (.alt false ⟨(some 53), (.pcall 115 [(.tmp 44), (.tmp 48), (.tmp 52)]), none⟩ (.take ⟨(some 40), (.mv (.tmp 53)), none⟩ (.take ⟨(some 54), (.ext 0 (.tmp 40)), none⟩ (.take ⟨(some 55), (.ext 1 (.tmp 40)), none⟩ (.alt false ⟨(some 7), (.alc 112 (.agg #[(.int .i64 0), (.int .i64 0), (.int .i64 0)])), none⟩ (.alt false ⟨none, (.stn 3 (.tmp 7) (.tmp 54)), none⟩ (.take ⟨(some 8), (.mv (.tmp 55)), none⟩ .done) .stop) .stop)))) (.alt false ⟨(some 7), (.alc 112 (.agg #[(.int .i64 0), (.int .i64 0), (.int .i64 0)])), none⟩ (.alt false ⟨(some 53), (.pcall 115 [(.tmp 44), (.tmp 48), (.tmp 52)]), none⟩ (.take ⟨(some 40), (.mv (.tmp 53)), none⟩ (.take ⟨(some 54), (.ext 0 (.tmp 40)), none⟩ (.take ⟨(some 55), (.ext 1 (.tmp 40)), none⟩ (.alt false ⟨none, (.stn 3 (.tmp 7) (.tmp 54)), none⟩ (.take ⟨(some 8), (.mv (.tmp 55)), none⟩ .done) .stop)))) .stop) .stop)))))))))))))))
    (.seq (.reg [⟨(some 56), (.mv (.tmp 0)), none⟩, ⟨(some 57), (.mv (.tmp 0)), none⟩, ⟨(some 58), (.ldn 3 (.tmp 7)), none⟩, ⟨(some 59), (.nilck (.tmp 56)), none⟩, ⟨(some 60), (.fad 8 (.tmp 59)), none⟩, ⟨none, (.stn 3 (.tmp 60) (.tmp 58)), none⟩, ⟨(some 61), (.nilck (.tmp 57)), none⟩, ⟨(some 62), (.fad 11 (.tmp 61)), none⟩, ⟨none, (.st1 (.tmp 62) (.const (.int .i64 1))), none⟩])
    (.block 0
    (.seq (.reg [⟨(some 67), (.mv (.tmp 8)), none⟩, ⟨(some 68), (.mv (.tmp 67)), none⟩, ⟨(some 69), (.fad 0 (.tmp 7)), (some (68, true))⟩, ⟨(some 70), (.ld1 (.tmp 69)), (some (68, true))⟩, ⟨(some 71), (.cmp .eql (.tmp 70) (.const (.int .i64 3))), (some (68, true))⟩, ⟨(some 72), (.pick (.tmp 68) (.tmp 71) (.const (.bool false))), none⟩, ⟨(some 73), (.mv (.tmp 72)), none⟩, ⟨(some 74), (.mv (.tmp 5)), (some (73, true))⟩, ⟨(some 75), (.cmp .eql (.tmp 74) (.const (.int .i64 0))), (some (73, true))⟩, ⟨(some 76), (.pick (.tmp 73) (.tmp 75) (.const (.bool false))), none⟩, ⟨(some 66), (.mv (.tmp 76)), none⟩])
    (.cond (.tmp 66) .skip
    (.seq (.reg [⟨(some 78), (.mv (.tmp 8)), none⟩, ⟨(some 79), (.mv (.tmp 78)), none⟩, ⟨(some 80), (.fad 0 (.tmp 7)), (some (79, true))⟩, ⟨(some 81), (.ld1 (.tmp 80)), (some (79, true))⟩, ⟨(some 82), (.cmp .eql (.tmp 81) (.const (.int .i64 2))), (some (79, true))⟩, ⟨(some 83), (.pick (.tmp 79) (.tmp 82) (.const (.bool false))), none⟩, ⟨(some 84), (.mv (.tmp 83)), none⟩, ⟨(some 85), (.mv (.tmp 5)), (some (84, true))⟩, ⟨(some 86), (.fad 1 (.tmp 7)), (some (84, true))⟩, ⟨(some 87), (.ld1 (.tmp 86)), (some (84, true))⟩, ⟨(some 88), (.pcall 119 [(.tmp 87)]), (some (84, true))⟩, ⟨(some 89), (.dv .rem (.tmp 85) (.tmp 88)), (some (84, true))⟩, ⟨(some 90), (.cmp .eql (.tmp 89) (.const (.int .i64 0))), (some (84, true))⟩, ⟨(some 91), (.pick (.tmp 84) (.tmp 90) (.const (.bool false))), none⟩, ⟨(some 77), (.mv (.tmp 91)), none⟩])
    (.cond (.tmp 77)
    (.reg [⟨(some 92), (.mv (.tmp 0)), none⟩, ⟨(some 93), (.mv (.tmp 5)), none⟩, ⟨(some 94), (.fad 1 (.tmp 7)), none⟩, ⟨(some 95), (.ld1 (.tmp 94)), none⟩, ⟨(some 96), (.pcall 119 [(.tmp 95)]), none⟩, ⟨(some 97), (.dv .quo (.tmp 93) (.tmp 96)), none⟩, ⟨(some 98), (.nilck (.tmp 92)), none⟩, ⟨(some 99), (.fad 6 (.tmp 98)), none⟩, ⟨none, (.st1 (.tmp 99) (.tmp 97)), none⟩])
    (.reg [⟨(some 63), (.mv (.tmp 0)), none⟩, ⟨(some 64), (.nilck (.tmp 63)), none⟩, ⟨(some 65), (.fad 15 (.tmp 64)), none⟩, ⟨none, (.st1 (.tmp 65) (.const (.bool true))), none⟩]))))))))))⟩ := by kernel_rfl

/-- (*allotment/give.Freer).claim -/
theorem tr84 : trF Try.prog pures Try.f84 = some
  ⟨129, [],
    (.seq (.seq
    (.reg [⟨(some 5), (.mv (.tmp 0)), none⟩, ⟨(some 6), (.nilck (.tmp 5)), none⟩, ⟨(some 7), (.fad 8 (.tmp 6)), none⟩, ⟨(some 8), (.fad 0 (.tmp 7)), none⟩, ⟨(some 9), (.ld1 (.tmp 8)), none⟩, ⟨(some 10), (.cmp .eql (.tmp 9) (.const (.int .i64 3))), none⟩])
    (.cond (.tmp 10)
    (.seq (.draw (.take ⟨(some 11), (.mv (.tmp 0)), none⟩ (.take ⟨(some 12), (.mv (.tmp 1)), none⟩ (.take ⟨(some 13), (.mv (.tmp 0)), none⟩ (.take ⟨(some 14), (.nilck (.tmp 13)), none⟩ (.take ⟨(some 15), (.fad 3 (.tmp 14)), none⟩ (.take ⟨(some 16), (.ld1 (.tmp 15)), none⟩ (.take ⟨(some 17), (.mv (.tmp 0)), none⟩ (.take ⟨(some 18), (.nilck (.tmp 17)), none⟩ (.take ⟨(some 19), (.fad 0 (.tmp 18)), none⟩ (.take ⟨(some 20), (.ldn 3 (.tmp 19)), none⟩ (.take ⟨(some 21), (.mv (.tmp 0)), none⟩ (.take ⟨(some 22), (.nilck (.tmp 21)), none⟩ (.take ⟨(some 23), (.fad 5 (.tmp 22)), none⟩ (.take ⟨(some 24), (.ld1 (.tmp 23)), none⟩ (.take ⟨(some 26), (.mv (.tmp 0)), none⟩ (.take ⟨(some 27), (.nilck (.tmp 26)), none⟩ (.take ⟨(some 28), (.fad 7 (.tmp 27)), none⟩ (.take ⟨(some 29), (.ld1 (.tmp 28)), none⟩ (.take ⟨(some 30), (.mv (.tmp 0)), none⟩ (.take ⟨(some 31), (.nilck (.tmp 30)), none⟩ (.take ⟨(some 32), (.fad 3 (.tmp 31)), none⟩ (.take ⟨(some 33), (.ld1 (.tmp 32)), none⟩ (.take ⟨(some 34), (.bld #[(.int .i64 0), (.int .i64 0), (.int .i64 0)] [(0, (1, (.const (.int .i64 1)))), (1, (1, (.tmp 33)))]), none⟩ (.alt false ⟨(some 25), (.pcall 71 [(.tmp 20), (.tmp 24)]), none⟩ (.alt false ⟨(some 35), (.pcall 72 [(.tmp 34)]), none⟩ (.alt false ⟨(some 36), (.call 55 [(.tmp 12), (.tmp 16), (.tmp 25), (.tmp 29), (.tmp 35)]), none⟩ (.take ⟨(some 37), (.nilck (.tmp 11)), none⟩ (.take ⟨(some 38), (.fad 14 (.tmp 37)), none⟩ (.alt true ⟨none, (.st1 (.tmp 38) (.tmp 36)), none⟩ .done .stop))) .stop) .stop) .stop)))))))))))))))))))))))))
    (.reg [⟨(some 39), (.mv (.tmp 0)), none⟩, ⟨(some 40), (.nilck (.tmp 39)), none⟩, ⟨(some 41), (.fad 11 (.tmp 40)), none⟩, ⟨none, (.st1 (.tmp 41) (.const (.int .i64 4))), none⟩]))
    (.seq (.reg [⟨(some 42), (.mv (.tmp 0)), none⟩, ⟨(some 43), (.nilck (.tmp 42)), none⟩, ⟨(some 44), (.fad 8 (.tmp 43)), none⟩, ⟨(some 45), (.fad 1 (.tmp 44)), none⟩, ⟨(some 46), (.ld1 (.tmp 45)), none⟩, ⟨(some 47), (.bld #[(.int .i64 0), (.int .i64 0)] [(0, (1, (.const (.int .i64 3)))), (1, (1, (.tmp 46)))]), none⟩, ⟨(some 48), (.pcall 87 [(.tmp 47)]), none⟩, ⟨(some 4), (.mv (.tmp 48)), none⟩])
    (.seq (.draw (.take ⟨(some 49), (.mv (.tmp 0)), none⟩ (.take ⟨(some 50), (.mv (.tmp 1)), none⟩ (.take ⟨(some 51), (.mv (.tmp 0)), none⟩ (.take ⟨(some 52), (.nilck (.tmp 51)), none⟩ (.take ⟨(some 53), (.fad 3 (.tmp 52)), none⟩ (.take ⟨(some 54), (.ld1 (.tmp 53)), none⟩ (.take ⟨(some 55), (.mv (.tmp 0)), none⟩ (.take ⟨(some 56), (.nilck (.tmp 55)), none⟩ (.take ⟨(some 57), (.fad 0 (.tmp 56)), none⟩ (.take ⟨(some 58), (.ldn 3 (.tmp 57)), none⟩ (.take ⟨(some 59), (.mv (.tmp 0)), none⟩ (.take ⟨(some 60), (.nilck (.tmp 59)), none⟩ (.take ⟨(some 61), (.fad 5 (.tmp 60)), none⟩ (.take ⟨(some 62), (.ld1 (.tmp 61)), none⟩ (.take ⟨(some 63), (.mv (.tmp 0)), none⟩ (.take ⟨(some 64), (.nilck (.tmp 63)), none⟩ (.take ⟨(some 65), (.fad 6 (.tmp 64)), none⟩ (.take ⟨(some 66), (.ld1 (.tmp 65)), none⟩ (.take ⟨(some 68), (.mv (.tmp 4)), none⟩ (.take ⟨(some 69), (.mv (.tmp 0)), none⟩ (.take ⟨(some 70), (.nilck (.tmp 69)), none⟩ (.take ⟨(some 71), (.fad 3 (.tmp 70)), none⟩ (.take ⟨(some 72), (.ld1 (.tmp 71)), none⟩ (.take ⟨(some 73), (.bld #[(.int .i64 0), (.int .i64 0)] [(0, (1, (.const (.int .i64 2)))), (1, (1, (.tmp 72)))]), none⟩ (.alt false ⟨(some 67), (.pcall 78 [(.tmp 58), (.tmp 62), (.tmp 66)]), none⟩ (.alt false ⟨(some 74), (.pcall 87 [(.tmp 73)]), none⟩ (.alt false ⟨(some 75), (.call 55 [(.tmp 50), (.tmp 54), (.tmp 67), (.tmp 68), (.tmp 74)]), none⟩ (.take ⟨(some 76), (.nilck (.tmp 49)), none⟩ (.take ⟨(some 77), (.fad 14 (.tmp 76)), none⟩ (.alt true ⟨none, (.st1 (.tmp 77) (.tmp 75)), none⟩ .done .stop))) .stop) .stop) .stop))))))))))))))))))))))))))
    (.seq (.reg [⟨(some 78), (.mv (.tmp 0)), none⟩, ⟨(some 79), (.nilck (.tmp 78)), none⟩, ⟨(some 80), (.fad 11 (.tmp 79)), none⟩, ⟨none, (.st1 (.tmp 80) (.const (.int .i64 3))), none⟩])
    (.seq (.reg [⟨(some 81), (.mv (.tmp 0)), none⟩, ⟨(some 82), (.nilck (.tmp 81)), none⟩, ⟨(some 83), (.fad 8 (.tmp 82)), none⟩, ⟨(some 84), (.fad 2 (.tmp 83)), none⟩, ⟨(some 85), (.ld1 (.tmp 84)), none⟩, ⟨(some 86), (.mv (.tmp 0)), none⟩, ⟨(some 87), (.nilck (.tmp 86)), none⟩, ⟨(some 88), (.fad 3 (.tmp 87)), none⟩, ⟨(some 89), (.ld1 (.tmp 88)), none⟩, ⟨(some 90), (.cmp .eql (.tmp 85) (.tmp 89)), none⟩])
    (.cond (.tmp 90)
    (.seq (.draw (.take ⟨(some 91), (.mv (.tmp 0)), none⟩ (.take ⟨(some 92), (.mv (.tmp 0)), none⟩ (.take ⟨(some 93), (.nilck (.tmp 92)), none⟩ (.take ⟨(some 94), (.fad 0 (.tmp 93)), none⟩ (.take ⟨(some 95), (.ldn 3 (.tmp 94)), none⟩ (.take ⟨(some 96), (.mv (.tmp 0)), none⟩ (.take ⟨(some 97), (.nilck (.tmp 96)), none⟩ (.take ⟨(some 98), (.fad 3 (.tmp 97)), none⟩ (.take ⟨(some 99), (.ld1 (.tmp 98)), none⟩ (.take ⟨(some 100), (.mv (.tmp 0)), none⟩ (.take ⟨(some 101), (.nilck (.tmp 100)), none⟩ (.take ⟨(some 102), (.fad 5 (.tmp 101)), none⟩ (.take ⟨(some 103), (.ld1 (.tmp 102)), none⟩ (.take ⟨(some 104), (.mv (.tmp 0)), none⟩ (.take ⟨(some 105), (.nilck (.tmp 104)), none⟩ (.take ⟨(some 106), (.fad 6 (.tmp 105)), none⟩ (.take ⟨(some 107), (.ld1 (.tmp 106)), none⟩ (.take ⟨(some 108), (.mv (.tmp 0)), none⟩ (.take ⟨(some 109), (.nilck (.tmp 108)), none⟩ (.take ⟨(some 110), (.fad 8 (.tmp 109)), none⟩ (.take ⟨(some 111), (.fad 1 (.tmp 110)), none⟩ (.take ⟨(some 112), (.ld1 (.tmp 111)), none⟩ (.alt false ⟨(some 113), (.call 120 [(.tmp 95), (.tmp 99), (.tmp 103), (.tmp 107), (.tmp 112)]), none⟩ (.take ⟨(some 114), (.nilck (.tmp 91)), none⟩ (.take ⟨(some 115), (.fad 13 (.tmp 114)), none⟩ (.alt true ⟨none, (.st1 (.tmp 115) (.tmp 113)), none⟩ .done .stop))) .stop))))))))))))))))))))))))
    (.seq (.reg [⟨(some 116), (.mv (.tmp 0)), none⟩, ⟨(some 117), (.nilck (.tmp 116)), none⟩, ⟨(some 118), (.fad 11 (.tmp 117)), none⟩, ⟨none, (.st1 (.tmp 118) (.const (.int .i64 2))), none⟩])
    (.reg [⟨(some 119), (.mv (.tmp 0)), none⟩, ⟨(some 120), (.call 86 [(.tmp 119)]), none⟩]))) .skip)))))))
    (.reg [⟨(some 121), (.mv (.tmp 0)), none⟩, ⟨(some 122), (.mv (.tmp 0)), none⟩, ⟨(some 123), (.nilck (.tmp 122)), none⟩, ⟨(some 124), (.fad 14 (.tmp 123)), none⟩, ⟨(some 125), (.ld1 (.tmp 124)), none⟩, ⟨(some 126), (.nt (.tmp 125)), none⟩, ⟨(some 127), (.nilck (.tmp 121)), none⟩, ⟨(some 128), (.fad 15 (.tmp 127)), none⟩, ⟨none, (.st1 (.tmp 128) (.tmp 126)), none⟩]))⟩ := by kernel_rfl

/-- (*allotment/mag.Putter).Step -/
theorem tr85 : trF Try.prog pures Try.f85 = some
  ⟨81, [],
    (.seq (.seq
    (.reg [⟨(some 5), (.mv (.tmp 0)), none⟩, ⟨(some 6), (.pnil false (.tmp 5)), none⟩, ⟨(some 7), (.mv (.tmp 6)), none⟩, ⟨(some 8), (.mv (.tmp 0)), (some (7, false))⟩, ⟨(some 9), (.nilck (.tmp 8)), (some (7, false))⟩, ⟨(some 10), (.fad 10 (.tmp 9)), (some (7, false))⟩, ⟨(some 11), (.ld1 (.tmp 10)), (some (7, false))⟩, ⟨(some 12), (.pick (.tmp 7) (.const (.bool true)) (.tmp 11)), none⟩])
    (.cond (.tmp 12) .ret .skip))
    (.seq (.reg [⟨(some 13), (.mv (.tmp 0)), none⟩, ⟨(some 14), (.nilck (.tmp 13)), none⟩, ⟨(some 15), (.fad 0 (.tmp 14)), none⟩, ⟨(some 16), (.ldn 3 (.tmp 15)), none⟩, ⟨(some 17), (.mv (.tmp 0)), none⟩, ⟨(some 18), (.nilck (.tmp 17)), none⟩, ⟨(some 19), (.fad 3 (.tmp 18)), none⟩, ⟨(some 20), (.ld1 (.tmp 19)), none⟩, ⟨(some 21), (.mv (.tmp 0)), none⟩, ⟨(some 22), (.nilck (.tmp 21)), none⟩, ⟨(some 23), (.fad 4 (.tmp 22)), none⟩, ⟨(some 24), (.ld1 (.tmp 23)), none⟩, ⟨(some 25), (.pcall 121 [(.tmp 16), (.tmp 20), (.tmp 24)]), none⟩, ⟨(some 4), (.mv (.tmp 25)), none⟩])
    (.block 0
    (.seq (.reg [⟨(some 47), (.mv (.tmp 0)), none⟩, ⟨(some 48), (.nilck (.tmp 47)), none⟩, ⟨(some 49), (.fad 8 (.tmp 48)), none⟩, ⟨(some 50), (.ld1 (.tmp 49)), none⟩, ⟨(some 46), (.mv (.tmp 50)), none⟩])
    (.cond (.tmp 46)
    (.seq (.draw (.take ⟨(some 51), (.mv (.tmp 1)), none⟩ (.take ⟨(some 52), (.mv (.tmp 0)), none⟩ (.take ⟨(some 53), (.nilck (.tmp 52)), none⟩ (.take ⟨(some 54), (.fad 3 (.tmp 53)), none⟩ (.take ⟨(some 55), (.ld1 (.tmp 54)), none⟩ (.take ⟨(some 56), (.mv (.tmp 4)), none⟩ (.take ⟨(some 57), (.mv (.tmp 0)), none⟩ (.take ⟨(some 58), (.nilck (.tmp 57)), none⟩ (.take ⟨(some 59), (.fad 5 (.tmp 58)), none⟩ (.take ⟨(some 60), (.ldn 3 (.tmp 59)), none⟩ (.alt false ⟨(some 61), (.pcall 122 [(.tmp 60)]), none⟩ (.alt true ⟨(some 62), (.call 62 [(.tmp 51), (.tmp 55), (.tmp 56), (.tmp 61)]), none⟩ .done .stop) .stop))))))))))))
    (.reg [⟨(some 63), (.mv (.tmp 0)), none⟩, ⟨(some 64), (.mv (.tmp 0)), none⟩, ⟨(some 65), (.nilck (.tmp 63)), none⟩, ⟨(some 66), (.fad 9 (.tmp 65)), none⟩, ⟨none, (.st1 (.tmp 66) (.const (.bool true))), none⟩, ⟨(some 67), (.nilck (.tmp 64)), none⟩, ⟨(some 68), (.fad 10 (.tmp 67)), none⟩, ⟨none, (.st1 (.tmp 68) (.const (.bool true))), none⟩]))
    (.seq (.reg [⟨(some 70), (.mv (.tmp 1)), none⟩, ⟨(some 71), (.mv (.tmp 0)), none⟩, ⟨(some 72), (.nilck (.tmp 71)), none⟩, ⟨(some 73), (.fad 3 (.tmp 72)), none⟩, ⟨(some 74), (.ld1 (.tmp 73)), none⟩, ⟨(some 75), (.mv (.tmp 4)), none⟩, ⟨(some 76), (.call 57 [(.tmp 70), (.tmp 74), (.tmp 75)]), none⟩, ⟨(some 77), (.cmp .eql (.tmp 76) (.const (.int .u64 0))), none⟩, ⟨(some 69), (.mv (.tmp 77)), none⟩])
    (.cond (.tmp 69)
    (.reg [⟨(some 78), (.mv (.tmp 0)), none⟩, ⟨(some 79), (.nilck (.tmp 78)), none⟩, ⟨(some 80), (.fad 8 (.tmp 79)), none⟩, ⟨none, (.st1 (.tmp 80) (.const (.bool true))), none⟩])
    (.seq (.reg [⟨(some 26), (.mv (.tmp 0)), none⟩, ⟨(some 27), (.nilck (.tmp 26)), none⟩, ⟨(some 28), (.fad 4 (.tmp 27)), none⟩, ⟨(some 29), (.ld1 (.tmp 28)), none⟩, ⟨(some 30), (.ar .add (.tmp 29) (.const (.int .i64 1))), none⟩, ⟨(some 31), (.nilck (.tmp 26)), none⟩, ⟨(some 32), (.fad 4 (.tmp 31)), none⟩, ⟨none, (.st1 (.tmp 32) (.tmp 30)), none⟩])
    (.draw (.take ⟨(some 33), (.mv (.tmp 0)), none⟩ (.take ⟨(some 34), (.mv (.tmp 0)), none⟩ (.take ⟨(some 35), (.nilck (.tmp 34)), none⟩ (.take ⟨(some 36), (.fad 4 (.tmp 35)), none⟩ (.take ⟨(some 37), (.ld1 (.tmp 36)), none⟩ (.take ⟨(some 38), (.mv (.tmp 0)), none⟩ (.take ⟨(some 39), (.nilck (.tmp 38)), none⟩ (.take ⟨(some 40), (.fad 0 (.tmp 39)), none⟩ (.take ⟨(some 41), (.fad 2 (.tmp 40)), none⟩ (.take ⟨(some 42), (.ld1 (.tmp 41)), none⟩ (.take ⟨(some 43), (.cmp .eql (.tmp 37) (.tmp 42)), none⟩ (.take ⟨(some 44), (.nilck (.tmp 33)), none⟩ (.take ⟨(some 45), (.fad 10 (.tmp 44)), none⟩ (.alt true ⟨none, (.st1 (.tmp 45) (.tmp 43)), none⟩ .done .stop)))))))))))))))))))))))⟩ := by kernel_rfl

/-- (*allotment/give.Freer).kept -/
theorem tr86 : trF Try.prog pures Try.f86 = some
  ⟨20, [],
    (.block 0
    (.seq (.reg [⟨(some 3), (.mv (.tmp 0)), none⟩, ⟨(some 4), (.nilck (.tmp 3)), none⟩, ⟨(some 5), (.fad 13 (.tmp 4)), none⟩, ⟨(some 6), (.ld1 (.tmp 5)), none⟩, ⟨(some 7), (.call 123 [(.tmp 6)]), none⟩, ⟨(some 2), (.mv (.tmp 7)), none⟩])
    (.cond (.tmp 2)
    (.reg [⟨(some 8), (.mv (.tmp 0)), none⟩, ⟨(some 9), (.nilck (.tmp 8)), none⟩, ⟨(some 10), (.fad 15 (.tmp 9)), none⟩, ⟨none, (.st1 (.tmp 10) (.const (.bool true))), none⟩])
    (.seq (.reg [⟨(some 12), (.mv (.tmp 0)), none⟩, ⟨(some 13), (.nilck (.tmp 12)), none⟩, ⟨(some 14), (.fad 13 (.tmp 13)), none⟩, ⟨(some 15), (.ld1 (.tmp 14)), none⟩, ⟨(some 16), (.call 124 [(.tmp 15)]), none⟩, ⟨(some 11), (.mv (.tmp 16)), none⟩])
    (.cond (.tmp 11)
    (.reg [⟨(some 17), (.mv (.tmp 0)), none⟩, ⟨(some 18), (.nilck (.tmp 17)), none⟩, ⟨(some 19), (.fad 11 (.tmp 18)), none⟩, ⟨none, (.st1 (.tmp 19) (.const (.int .i64 3))), none⟩]) .skip)))))⟩ := by kernel_rfl

/-- (*allotment/give.Freer).empty -/
theorem tr88 : trF Try.prog pures Try.f88 = some
  ⟨61, [],
    (.seq (.seq
    (.reg [⟨(some 4), (.mv (.tmp 0)), none⟩, ⟨(some 5), (.nilck (.tmp 4)), none⟩, ⟨(some 6), (.fad 12 (.tmp 5)), none⟩, ⟨(some 7), (.ld1 (.tmp 6)), none⟩, ⟨(some 8), (.mv (.tmp 0)), none⟩, ⟨(some 9), (.nilck (.tmp 8)), none⟩, ⟨(some 10), (.fad 8 (.tmp 9)), none⟩, ⟨(some 11), (.fad 1 (.tmp 10)), none⟩, ⟨(some 12), (.ld1 (.tmp 11)), none⟩, ⟨(some 13), (.ar .sub (.tmp 12) (.const (.int .i64 1))), none⟩, ⟨(some 14), (.cmp .eql (.tmp 7) (.tmp 13)), none⟩])
    (.cond (.tmp 14)
    (.seq (.draw (.take ⟨(some 15), (.mv (.tmp 1)), none⟩ (.take ⟨(some 16), (.mv (.tmp 0)), none⟩ (.take ⟨(some 17), (.nilck (.tmp 16)), none⟩ (.take ⟨(some 18), (.fad 3 (.tmp 17)), none⟩ (.take ⟨(some 19), (.ld1 (.tmp 18)), none⟩ (.take ⟨(some 20), (.mv (.tmp 0)), none⟩ (.take ⟨(some 21), (.nilck (.tmp 20)), none⟩ (.take ⟨(some 22), (.fad 0 (.tmp 21)), none⟩ (.take ⟨(some 23), (.ldn 3 (.tmp 22)), none⟩ (.take ⟨(some 24), (.mv (.tmp 0)), none⟩ (.take ⟨(some 25), (.nilck (.tmp 24)), none⟩ (.take ⟨(some 26), (.fad 5 (.tmp 25)), none⟩ (.take ⟨(some 27), (.ld1 (.tmp 26)), none⟩ (.alt false ⟨(some 28), (.pcall 71 [(.tmp 23), (.tmp 27)]), none⟩ (.alt true ⟨(some 29), (.call 62 [(.tmp 15), (.tmp 19), (.tmp 28), (.const (.int .u64 0))]), none⟩ .done .stop) .stop)))))))))))))))
    (.seq (.reg [⟨(some 30), (.mv (.tmp 0)), none⟩, ⟨(some 31), (.nilck (.tmp 30)), none⟩, ⟨(some 32), (.fad 15 (.tmp 31)), none⟩, ⟨none, (.st1 (.tmp 32) (.const (.bool true))), none⟩]) .ret)) .skip))
    (.seq (.draw (.take ⟨(some 33), (.mv (.tmp 1)), none⟩ (.take ⟨(some 34), (.mv (.tmp 0)), none⟩ (.take ⟨(some 35), (.nilck (.tmp 34)), none⟩ (.take ⟨(some 36), (.fad 3 (.tmp 35)), none⟩ (.take ⟨(some 37), (.ld1 (.tmp 36)), none⟩ (.take ⟨(some 38), (.mv (.tmp 0)), none⟩ (.take ⟨(some 39), (.nilck (.tmp 38)), none⟩ (.take ⟨(some 40), (.fad 0 (.tmp 39)), none⟩ (.take ⟨(some 41), (.ldn 3 (.tmp 40)), none⟩ (.take ⟨(some 42), (.mv (.tmp 0)), none⟩ (.take ⟨(some 43), (.nilck (.tmp 42)), none⟩ (.take ⟨(some 44), (.fad 5 (.tmp 43)), none⟩ (.take ⟨(some 45), (.ld1 (.tmp 44)), none⟩ (.take ⟨(some 46), (.mv (.tmp 0)), none⟩ (.take ⟨(some 47), (.nilck (.tmp 46)), none⟩ (.take ⟨(some 48), (.fad 12 (.tmp 47)), none⟩ (.take ⟨(some 49), (.ld1 (.tmp 48)), none⟩ (.take ⟨(some 50), (.ar .add (.tmp 45) (.tmp 49)), none⟩ (.take ⟨(some 51), (.ar .add (.tmp 50) (.const (.int .i64 1))), none⟩ (.alt false ⟨(some 52), (.pcall 71 [(.tmp 41), (.tmp 51)]), none⟩ (.alt true ⟨(some 53), (.call 62 [(.tmp 33), (.tmp 37), (.tmp 52), (.const (.int .u64 0))]), none⟩ .done .stop) .stop)))))))))))))))))))))
    (.reg [⟨(some 54), (.mv (.tmp 0)), none⟩, ⟨(some 55), (.nilck (.tmp 54)), none⟩, ⟨(some 56), (.fad 12 (.tmp 55)), none⟩, ⟨(some 57), (.ld1 (.tmp 56)), none⟩, ⟨(some 58), (.ar .add (.tmp 57) (.const (.int .i64 1))), none⟩, ⟨(some 59), (.nilck (.tmp 54)), none⟩, ⟨(some 60), (.fad 12 (.tmp 59)), none⟩, ⟨none, (.st1 (.tmp 60) (.tmp 58)), none⟩])))⟩ := by kernel_rfl

/-- allotment/allotmentref20.enough -/
theorem tr89 : trF Try.prog pures Try.f89 = some
  ⟨14, [(.t 4)],
    (.seq (.reg [⟨(some 2), (.box 48 (.tmp 0)), none⟩, ⟨(some 4), (.mv (.const (.bool false))), none⟩])
    (.seq (.reg [⟨(some 5), (.ldn 3 (.tmp 2)), none⟩, ⟨(some 6), (.pcall 67 [(.tmp 5)]), none⟩, ⟨(some 7), (.mv (.tmp 6)), none⟩, ⟨(some 8), (.mv (.tmp 1)), (some (7, true))⟩, ⟨(some 9), (.len (.tmp 8)), (some (7, true))⟩, ⟨(some 10), (.ldn 3 (.tmp 2)), (some (7, true))⟩, ⟨(some 11), (.pcall 25 [(.tmp 10)]), (some (7, true))⟩, ⟨(some 12), (.cmp .geq (.tmp 9) (.tmp 11)), (some (7, true))⟩, ⟨(some 13), (.pick (.tmp 7) (.tmp 12) (.const (.bool false))), none⟩, ⟨(some 4), (.mv (.tmp 13)), none⟩]) .ret))⟩ := by kernel_rfl

/-- allotment/allotmentref20.page -/
theorem tr90 : trF Try.prog pures Try.f90 = some
  ⟨24, [(.cn 6 3), (.t 7)],
    (.seq (.reg [⟨(some 3), (.box 48 (.tmp 0)), none⟩, ⟨(some 6), (.alc 53 (.agg #[(.int .i64 0), (.int .i64 0), (.int .i64 0)])), none⟩, ⟨(some 7), (.mv (.const (.bool false))), none⟩])
    (.seq (.reg [⟨(some 9), (.ldn 3 (.tmp 3)), none⟩, ⟨(some 10), (.mv (.tmp 2)), none⟩, ⟨(some 11), (.pcall 27 [(.tmp 9), (.tmp 10)]), none⟩, ⟨(some 8), (.mv (.tmp 11)), none⟩])
    (.seq (.seq
    (.reg [⟨(some 12), (.mv (.tmp 8)), none⟩, ⟨(some 13), (.cmp .lss (.tmp 12) (.const (.int .i64 0))), none⟩])
    (.cond (.tmp 13)
    (.seq (.reg [⟨(some 14), (.bld #[(.int .i64 0), (.int .i64 0), (.int .i64 0)] []), none⟩, ⟨none, (.stn 3 (.tmp 6) (.tmp 14)), none⟩, ⟨(some 7), (.mv (.const (.bool false))), none⟩]) .ret) .skip))
    (.seq (.draw (.take ⟨(some 15), (.ldn 3 (.tmp 3)), none⟩ (.take ⟨(some 16), (.mv (.tmp 2)), none⟩ (.take ⟨(some 17), (.mv (.tmp 1)), none⟩ (.take ⟨(some 18), (.mv (.tmp 8)), none⟩ (.take ⟨(some 19), (.iad 1 (.tmp 17) (.tmp 18)), none⟩ (.take ⟨(some 20), (.ld1 (.tmp 19)), none⟩ (.alt false ⟨(some 21), (.pcall 97 [(.tmp 15), (.tmp 16), (.tmp 20)]), none⟩ (.take ⟨(some 22), (.ext 0 (.tmp 21)), none⟩ (.take ⟨(some 23), (.ext 1 (.tmp 21)), none⟩ (.alt false ⟨none, (.stn 3 (.tmp 6) (.tmp 22)), none⟩ (.take ⟨(some 7), (.mv (.tmp 23)), none⟩ .done) .stop))) .stop)))))))) .ret))))⟩ := by kernel_rfl

/-- allotment/allotmentref20.soundPage -/
theorem tr91 : trF Try.prog pures Try.f91 = some
  ⟨155, [(.t 8)],
    (.seq (.reg [⟨(some 4), (.box 48 (.tmp 0)), none⟩, ⟨(some 7), (.box 53 (.tmp 3)), none⟩, ⟨(some 8), (.mv (.const (.bool false))), none⟩])
    (.seq (.seq
    (.reg [⟨(some 19), (.fad 0 (.tmp 7)), none⟩, ⟨(some 20), (.ld1 (.tmp 19)), none⟩])
    (.block 0
    (.seq (.reg [⟨(some 22), (.cmp .eql (.tmp 20) (.const (.int .i64 2))), none⟩, ⟨(some 21), (.mv (.tmp 22)), none⟩])
    (.cond (.tmp 21)
    (.seq (.seq
    (.reg [⟨(some 9), (.mv (.const (.int .i64 0))), none⟩])
    (.block 1
    (.loop (.seq
    (.seq (.reg [⟨(some 23), (.mv (.tmp 9)), none⟩, ⟨(some 24), (.cmp .lss (.tmp 23) (.const (.int .i64 16))), none⟩])
    (.cond (.tmp 24) .skip (.exit 1)))
    (.seq (.block 2
    (.seq (.reg [⟨(some 27), (.ldn 3 (.tmp 4)), none⟩, ⟨(some 28), (.mv (.tmp 1)), none⟩, ⟨(some 29), (.mv (.tmp 2)), none⟩, ⟨(some 30), (.mv (.tmp 9)), none⟩, ⟨(some 31), (.call 93 [(.tmp 27), (.tmp 28), (.tmp 29), (.tmp 30)]), none⟩, ⟨(some 10), (.alc 58 (.agg #[(.int .i64 0), (.int .i64 0)])), none⟩, ⟨none, (.stn 2 (.tmp 10) (.tmp 31)), none⟩])
    (.seq (.reg [⟨(some 32), (.mv (.tmp 1)), none⟩, ⟨(some 33), (.ldn 3 (.tmp 4)), none⟩, ⟨(some 34), (.mv (.tmp 2)), none⟩, ⟨(some 35), (.mv (.tmp 9)), none⟩, ⟨(some 36), (.pcall 30 [(.tmp 33), (.tmp 34), (.tmp 35)]), none⟩, ⟨(some 37), (.iad 1 (.tmp 32) (.tmp 36)), none⟩, ⟨(some 38), (.ld1 (.tmp 37)), none⟩, ⟨(some 11), (.mv (.tmp 38)), none⟩])
    (.seq (.reg [⟨(some 39), (.fad 0 (.tmp 10)), none⟩, ⟨(some 40), (.ld1 (.tmp 39)), none⟩, ⟨(some 41), (.cmp .eql (.tmp 40) (.const (.int .i64 1))), none⟩, ⟨(some 42), (.mv (.tmp 41)), none⟩, ⟨(some 43), (.fad 0 (.tmp 10)), (some (42, false))⟩, ⟨(some 44), (.ld1 (.tmp 43)), (some (42, false))⟩, ⟨(some 45), (.cmp .eql (.tmp 44) (.const (.int .i64 3))), (some (42, false))⟩, ⟨(some 46), (.pick (.tmp 42) (.const (.bool true)) (.tmp 45)), none⟩, ⟨(some 47), (.mv (.tmp 46)), none⟩, ⟨(some 48), (.fad 1 (.tmp 10)), (some (47, true))⟩, ⟨(some 49), (.ld1 (.tmp 48)), (some (47, true))⟩, ⟨(some 50), (.fad 1 (.tmp 7)), (some (47, true))⟩, ⟨(some 51), (.ld1 (.tmp 50)), (some (47, true))⟩, ⟨(some 52), (.cmp .eql (.tmp 49) (.tmp 51)), (some (47, true))⟩, ⟨(some 53), (.pick (.tmp 47) (.tmp 52) (.const (.bool false))), none⟩, ⟨(some 54), (.mv (.tmp 53)), none⟩, ⟨(some 55), (.fad 0 (.tmp 10)), (some (54, false))⟩, ⟨(some 56), (.ld1 (.tmp 55)), (some (54, false))⟩, ⟨(some 57), (.cmp .eql (.tmp 56) (.const (.int .i64 2))), (some (54, false))⟩, ⟨(some 58), (.mv (.tmp 57)), (some (54, false))⟩, ⟨(some 59), (.fad 1 (.tmp 10)), (some (58, true))⟩, ⟨(some 60), (.ld1 (.tmp 59)), (some (58, true))⟩, ⟨(some 61), (.fad 1 (.tmp 4)), (some (58, true))⟩, ⟨(some 62), (.ld1 (.tmp 61)), (some (58, true))⟩, ⟨(some 63), (.cmp .lss (.tmp 60) (.tmp 62)), (some (58, true))⟩, ⟨(some 64), (.pick (.tmp 58) (.tmp 63) (.const (.bool false))), (some (54, false))⟩, ⟨(some 65), (.pick (.tmp 54) (.const (.bool true)) (.tmp 64)), none⟩, ⟨(some 12), (.mv (.tmp 65)), none⟩])
    (.seq (.reg [⟨(some 66), (.mv (.tmp 9)), none⟩, ⟨(some 67), (.fad 1 (.tmp 7)), none⟩, ⟨(some 68), (.ld1 (.tmp 67)), none⟩, ⟨(some 69), (.pcall 28 [(.tmp 68)]), none⟩, ⟨(some 70), (.cmp .lss (.tmp 66) (.tmp 69)), none⟩, ⟨(some 71), (.mv (.tmp 70)), none⟩, ⟨(some 72), (.mv (.tmp 12)), (some (71, true))⟩, ⟨(some 73), (.nt (.tmp 72)), (some (71, true))⟩, ⟨(some 74), (.pick (.tmp 71) (.tmp 73) (.const (.bool false))), none⟩, ⟨(some 75), (.mv (.tmp 74)), none⟩, ⟨(some 76), (.mv (.tmp 9)), (some (75, false))⟩, ⟨(some 77), (.fad 1 (.tmp 7)), (some (75, false))⟩, ⟨(some 78), (.ld1 (.tmp 77)), (some (75, false))⟩, ⟨(some 79), (.pcall 28 [(.tmp 78)]), (some (75, false))⟩, ⟨(some 80), (.cmp .geq (.tmp 76) (.tmp 79)), (some (75, false))⟩, ⟨(some 81), (.mv (.tmp 80)), (some (75, false))⟩, ⟨(some 82), (.mv (.tmp 11)), (some (81, true))⟩, ⟨(some 83), (.cmp .neq (.tmp 82) (.const (.int .u64 0))), (some (81, true))⟩, ⟨(some 84), (.pick (.tmp 81) (.tmp 83) (.const (.bool false))), (some (75, false))⟩, ⟨(some 85), (.pick (.tmp 75) (.const (.bool true)) (.tmp 84)), none⟩])
    (.cond (.tmp 85)
    (.seq (.reg [⟨(some 8), (.mv (.const (.bool false))), none⟩]) .ret) .skip))))))
    (.reg [⟨(some 25), (.mv (.tmp 9)), none⟩, ⟨(some 26), (.ar .add (.tmp 25) (.const (.int .i64 1))), none⟩, ⟨(some 9), (.mv (.tmp 26)), none⟩]))))))
    (.seq (.reg [⟨(some 8), (.mv (.const (.bool true))), none⟩]) .ret))
    (.seq (.reg [⟨(some 87), (.cmp .eql (.tmp 20) (.const (.int .i64 1))), none⟩, ⟨(some 86), (.mv (.tmp 87)), none⟩])
    (.cond (.tmp 86)
    (.seq (.reg [⟨(some 8), (.mv (.const (.bool true))), none⟩]) .ret) .skip))))))
    (.seq (.seq
    (.reg [⟨(some 13), (.mv (.const (.int .i64 0))), none⟩])
    (.block 3
    (.loop (.seq
    (.seq (.reg [⟨(some 88), (.mv (.tmp 13)), none⟩, ⟨(some 89), (.cmp .lss (.tmp 88) (.const (.int .i64 16))), none⟩])
    (.cond (.tmp 89) .skip (.exit 3)))
    (.seq (.block 4
    (.seq (.reg [⟨(some 92), (.mv (.tmp 1)), none⟩, ⟨(some 93), (.ldn 3 (.tmp 4)), none⟩, ⟨(some 94), (.mv (.tmp 2)), none⟩, ⟨(some 95), (.mv (.tmp 13)), none⟩, ⟨(some 96), (.pcall 30 [(.tmp 93), (.tmp 94), (.tmp 95)]), none⟩, ⟨(some 97), (.iad 1 (.tmp 92) (.tmp 96)), none⟩, ⟨(some 98), (.ld1 (.tmp 97)), none⟩, ⟨(some 99), (.cmp .neq (.tmp 98) (.const (.int .u64 0))), none⟩])
    (.cond (.tmp 99)
    (.seq (.reg [⟨(some 8), (.mv (.const (.bool false))), none⟩]) .ret) .skip)))
    (.reg [⟨(some 90), (.mv (.tmp 13)), none⟩, ⟨(some 91), (.ar .add (.tmp 90) (.const (.int .i64 1))), none⟩, ⟨(some 13), (.mv (.tmp 91)), none⟩]))))))
    (.seq (.seq
    (.reg [⟨(some 100), (.fad 0 (.tmp 7)), none⟩, ⟨(some 101), (.ld1 (.tmp 100)), none⟩])
    (.block 5
    (.seq (.reg [⟨(some 103), (.cmp .eql (.tmp 101) (.const (.int .i64 4))), none⟩, ⟨(some 102), (.mv (.tmp 103)), none⟩])
    (.cond (.tmp 102)
    (.seq (.reg [⟨(some 105), (.ldn 3 (.tmp 4)), none⟩, ⟨(some 106), (.mv (.tmp 1)), none⟩, ⟨(some 107), (.fad 1 (.tmp 7)), none⟩, ⟨(some 108), (.ld1 (.tmp 107)), none⟩, ⟨(some 109), (.call 90 [(.tmp 105), (.tmp 106), (.tmp 108)]), none⟩, ⟨(some 104), (.mv (.tmp 109)), none⟩, ⟨(some 110), (.ext 0 (.tmp 104)), none⟩, ⟨(some 111), (.ext 1 (.tmp 104)), none⟩, ⟨(some 14), (.alc 53 (.agg #[(.int .i64 0), (.int .i64 0), (.int .i64 0)])), none⟩, ⟨none, (.stn 3 (.tmp 14) (.tmp 110)), none⟩, ⟨(some 15), (.mv (.tmp 111)), none⟩])
    (.seq (.reg [⟨(some 112), (.fad 0 (.tmp 14)), none⟩, ⟨(some 113), (.ld1 (.tmp 112)), none⟩, ⟨(some 114), (.cmp .eql (.tmp 113) (.const (.int .i64 1))), none⟩, ⟨(some 115), (.mv (.tmp 114)), none⟩, ⟨(some 116), (.fad 0 (.tmp 14)), (some (115, false))⟩, ⟨(some 117), (.ld1 (.tmp 116)), (some (115, false))⟩, ⟨(some 118), (.cmp .eql (.tmp 117) (.const (.int .i64 3))), (some (115, false))⟩, ⟨(some 119), (.mv (.tmp 118)), (some (115, false))⟩, ⟨(some 120), (.mv (.tmp 2)), (some (119, true))⟩, ⟨(some 121), (.fad 1 (.tmp 7)), (some (119, true))⟩, ⟨(some 122), (.ld1 (.tmp 121)), (some (119, true))⟩, ⟨(some 123), (.fad 1 (.tmp 14)), (some (119, true))⟩, ⟨(some 124), (.ld1 (.tmp 123)), (some (119, true))⟩, ⟨(some 125), (.ar .add (.tmp 122) (.tmp 124)), (some (119, true))⟩, ⟨(some 126), (.cmp .lss (.tmp 120) (.tmp 125)), (some (119, true))⟩, ⟨(some 127), (.pick (.tmp 119) (.tmp 126) (.const (.bool false))), (some (115, false))⟩, ⟨(some 128), (.pick (.tmp 115) (.const (.bool true)) (.tmp 127)), none⟩, ⟨(some 8), (.mv (.tmp 128)), none⟩]) .ret))
    (.seq (.reg [⟨(some 130), (.cmp .eql (.tmp 101) (.const (.int .i64 3))), none⟩, ⟨(some 129), (.mv (.tmp 130)), none⟩])
    (.cond (.tmp 129)
    (.seq (.reg [⟨(some 16), (.mv (.const (.int .i64 1))), none⟩])
    (.block 6
    (.loop (.seq
    (.seq (.reg [⟨(some 131), (.mv (.tmp 16)), none⟩, ⟨(some 132), (.fad 1 (.tmp 7)), none⟩, ⟨(some 133), (.ld1 (.tmp 132)), none⟩, ⟨(some 134), (.cmp .lss (.tmp 131) (.tmp 133)), none⟩])
    (.cond (.tmp 134) .skip (.exit 6)))
    (.seq (.block 7
    (.seq (.reg [⟨(some 138), (.ldn 3 (.tmp 4)), none⟩, ⟨(some 139), (.mv (.tmp 1)), none⟩, ⟨(some 140), (.mv (.tmp 2)), none⟩, ⟨(some 141), (.mv (.tmp 16)), none⟩, ⟨(some 142), (.ar .add (.tmp 140) (.tmp 141)), none⟩, ⟨(some 143), (.call 90 [(.tmp 138), (.tmp 139), (.tmp 142)]), none⟩, ⟨(some 137), (.mv (.tmp 143)), none⟩, ⟨(some 144), (.ext 0 (.tmp 137)), none⟩, ⟨(some 145), (.ext 1 (.tmp 137)), none⟩, ⟨(some 17), (.alc 53 (.agg #[(.int .i64 0), (.int .i64 0), (.int .i64 0)])), none⟩, ⟨none, (.stn 3 (.tmp 17) (.tmp 144)), none⟩, ⟨(some 18), (.mv (.tmp 145)), none⟩])
    (.seq (.reg [⟨(some 146), (.fad 0 (.tmp 17)), none⟩, ⟨(some 147), (.ld1 (.tmp 146)), none⟩, ⟨(some 148), (.cmp .neq (.tmp 147) (.const (.int .i64 4))), none⟩, ⟨(some 149), (.mv (.tmp 148)), none⟩, ⟨(some 150), (.fad 1 (.tmp 17)), (some (149, false))⟩, ⟨(some 151), (.ld1 (.tmp 150)), (some (149, false))⟩, ⟨(some 152), (.mv (.tmp 2)), (some (149, false))⟩, ⟨(some 153), (.cmp .neq (.tmp 151) (.tmp 152)), (some (149, false))⟩, ⟨(some 154), (.pick (.tmp 149) (.const (.bool true)) (.tmp 153)), none⟩])
    (.cond (.tmp 154)
    (.seq (.reg [⟨(some 8), (.mv (.const (.bool false))), none⟩]) .ret) .skip))))
    (.reg [⟨(some 135), (.mv (.tmp 16)), none⟩, ⟨(some 136), (.ar .add (.tmp 135) (.const (.int .i64 1))), none⟩, ⟨(some 16), (.mv (.tmp 136)), none⟩])))))) .skip))))))
    (.seq (.reg [⟨(some 8), (.mv (.const (.bool true))), none⟩]) .ret)))))⟩ := by kernel_rfl

/-- allotment/allotmentref20.slot -/
theorem tr93 : trF Try.prog pures Try.f93 = some
  ⟨17, [(.cn 8 2)],
    (.seq (.reg [⟨(some 4), (.box 48 (.tmp 0)), none⟩, ⟨(some 8), (.alc 58 (.agg #[(.int .i64 0), (.int .i64 0)])), none⟩])
    (.seq (.reg [⟨(some 9), (.mv (.tmp 1)), none⟩, ⟨(some 10), (.ldn 3 (.tmp 4)), none⟩, ⟨(some 11), (.mv (.tmp 2)), none⟩, ⟨(some 12), (.mv (.tmp 3)), none⟩, ⟨(some 13), (.pcall 30 [(.tmp 10), (.tmp 11), (.tmp 12)]), none⟩, ⟨(some 14), (.iad 1 (.tmp 9) (.tmp 13)), none⟩, ⟨(some 15), (.ld1 (.tmp 14)), none⟩, ⟨(some 16), (.pcall 125 [(.tmp 15)]), none⟩, ⟨none, (.stn 2 (.tmp 8) (.tmp 16)), none⟩]) .ret))⟩ := by kernel_rfl

/-- allotment/allotmentref8.good -/
theorem tr96 : trF Try.prog pures Try.f96 = some
  ⟨9, [(.t 4)],
    (.seq (.reg [⟨(some 2), (.box 48 (.tmp 0)), none⟩, ⟨(some 4), (.mv (.const (.bool false))), none⟩])
    (.seq (.reg [⟨(some 5), (.ldn 3 (.tmp 2)), none⟩, ⟨(some 6), (.mv (.tmp 1)), none⟩, ⟨(some 7), (.pcall 45 [(.tmp 5), (.tmp 6)]), none⟩, ⟨(some 8), (.cmp .geq (.tmp 7) (.const (.int .i64 0))), none⟩, ⟨(some 4), (.mv (.tmp 8)), none⟩]) .ret))⟩ := by kernel_rfl

/-- allotment/allotmentref8.NewStripper -/
theorem tr98 : trF Try.prog pures Try.f98 = some
  ⟨30, [(.t 8)],
    (.seq (.reg [⟨(some 4), (.box 48 (.tmp 0)), none⟩, ⟨(some 8), (.mv (.const (.pointer none))), none⟩])
    (.seq (.draw (.take ⟨(some 9), (.ldn 3 (.tmp 4)), none⟩ (.take ⟨(some 10), (.mv (.tmp 1)), none⟩ (.take ⟨(some 11), (.mv (.tmp 2)), none⟩ (.take ⟨(some 12), (.mv (.tmp 3)), none⟩ (.take ⟨(some 13), (.ldn 3 (.tmp 4)), none⟩ (.take ⟨(some 14), (.mv (.tmp 1)), none⟩ (.alt false ⟨(some 15), (.pcall 96 [(.tmp 13), (.tmp 14)]), none⟩ (.take ⟨(some 16), (.nt (.tmp 15)), none⟩ (.take ⟨(some 17), (.mv (.tmp 16)), none⟩ (.take ⟨(some 18), (.ldn 3 (.tmp 4)), (some (17, false))⟩ (.take ⟨(some 19), (.mv (.tmp 2)), (some (17, false))⟩ (.alt false ⟨(some 20), (.pcall 27 [(.tmp 18), (.tmp 19)]), (some (17, false))⟩ (.take ⟨(some 21), (.cmp .lss (.tmp 20) (.const (.int .i64 0))), (some (17, false))⟩ (.take ⟨(some 22), (.pick (.tmp 17) (.const (.bool true)) (.tmp 21)), none⟩ (.take ⟨(some 23), (.mv (.tmp 22)), none⟩ (.take ⟨(some 24), (.mv (.tmp 3)), (some (23, false))⟩ (.alt false ⟨(some 25), (.pcall 28 [(.tmp 24)]), (some (23, false))⟩ (.take ⟨(some 26), (.cmp .eql (.tmp 25) (.const (.int .i64 0))), (some (23, false))⟩ (.take ⟨(some 27), (.pick (.tmp 23) (.const (.bool true)) (.tmp 26)), none⟩ (.take ⟨(some 28), (.bld #[(.int .i64 0), (.int .i64 0), (.int .i64 0), (.int .i64 0), (.int .i64 0), (.int .i64 0), (.int .i64 0), (.bool false), (.bool false), (.bool false)] [(0, (3, (.tmp 9))), (3, (1, (.tmp 10))), (4, (1, (.tmp 11))), (5, (1, (.tmp 12))), (8, (1, (.tmp 27)))]), none⟩ (.alt false ⟨(some 29), (.box 133 (.tmp 28)), none⟩ (.take ⟨(some 8), (.mv (.tmp 29)), none⟩ .done) .stop)))) .stop))))) .stop))))) .stop)))))))) .ret))⟩ := by kernel_rfl

/-- (*allotment/allotmentref8.Runner).fail -/
theorem tr99 : trF Try.prog pures Try.f99 = some
  ⟨22, [],
    (.seq (.reg [⟨(some 2), (.mv (.tmp 0)), none⟩, ⟨(some 3), (.mv (.tmp 0)), none⟩, ⟨(some 4), (.nilck (.tmp 3)), none⟩, ⟨(some 5), (.fad 6 (.tmp 4)), none⟩, ⟨(some 6), (.ld1 (.tmp 5)), none⟩, ⟨(some 7), (.ar .add (.tmp 6) (.const (.int .i64 1))), none⟩, ⟨(some 8), (.nilck (.tmp 2)), none⟩, ⟨(some 9), (.fad 10 (.tmp 8)), none⟩, ⟨none, (.st1 (.tmp 9) (.tmp 7)), none⟩])
    (.seq (.reg [⟨(some 10), (.mv (.tmp 0)), none⟩, ⟨(some 11), (.mv (.tmp 0)), none⟩, ⟨(some 12), (.mv (.tmp 0)), none⟩, ⟨(some 13), (.nilck (.tmp 12)), none⟩, ⟨(some 14), (.fad 6 (.tmp 13)), none⟩, ⟨(some 15), (.ld1 (.tmp 14)), none⟩, ⟨(some 16), (.nilck (.tmp 10)), none⟩, ⟨(some 17), (.fad 9 (.tmp 16)), none⟩, ⟨none, (.st1 (.tmp 17) (.const (.int .i64 4))), none⟩, ⟨(some 18), (.nilck (.tmp 11)), none⟩, ⟨(some 19), (.fad 11 (.tmp 18)), none⟩, ⟨none, (.st1 (.tmp 19) (.tmp 15)), none⟩])
    (.reg [⟨(some 20), (.mv (.tmp 0)), none⟩, ⟨(some 21), (.call 103 [(.tmp 20)]), none⟩])))⟩ := by kernel_rfl

/-- allotment/allotmentref8.held -/
theorem tr100 : trF Try.prog pures Try.f100 = some
  ⟨6, [(.t 2)],
    (.seq (.reg [⟨(some 2), (.mv (.const (.int .u64 0))), none⟩])
    (.seq (.reg [⟨(some 3), (.mv (.tmp 0)), none⟩, ⟨(some 4), (.bld #[(.int .i64 0), (.int .i64 0), (.int .i64 0)] [(0, (1, (.const (.int .i64 1)))), (1, (1, (.tmp 3)))]), none⟩, ⟨(some 5), (.pcall 26 [(.tmp 4)]), none⟩, ⟨(some 2), (.mv (.tmp 5)), none⟩]) .ret))⟩ := by kernel_rfl

/-- (*allotment/allotmentref8.Runner).got -/
theorem tr101 : trF Try.prog pures Try.f101 = some
  ⟨39, [],
    (.seq (.reg [⟨(some 2), (.mv (.tmp 0)), none⟩, ⟨(some 3), (.nilck (.tmp 2)), none⟩, ⟨(some 4), (.fad 6 (.tmp 3)), none⟩, ⟨(some 5), (.ld1 (.tmp 4)), none⟩, ⟨(some 6), (.ar .add (.tmp 5) (.const (.int .i64 1))), none⟩, ⟨(some 7), (.nilck (.tmp 2)), none⟩, ⟨(some 8), (.fad 6 (.tmp 7)), none⟩, ⟨none, (.st1 (.tmp 8) (.tmp 6)), none⟩])
    (.seq (.reg [⟨(some 9), (.mv (.tmp 0)), none⟩, ⟨(some 10), (.nilck (.tmp 9)), none⟩, ⟨(some 11), (.fad 9 (.tmp 10)), none⟩, ⟨none, (.st1 (.tmp 11) (.const (.int .i64 0))), none⟩])
    (.seq (.reg [⟨(some 12), (.mv (.tmp 0)), none⟩, ⟨(some 13), (.nilck (.tmp 12)), none⟩, ⟨(some 14), (.fad 6 (.tmp 13)), none⟩, ⟨(some 15), (.ld1 (.tmp 14)), none⟩, ⟨(some 16), (.mv (.tmp 0)), none⟩, ⟨(some 17), (.nilck (.tmp 16)), none⟩, ⟨(some 18), (.fad 5 (.tmp 17)), none⟩, ⟨(some 19), (.ld1 (.tmp 18)), none⟩, ⟨(some 20), (.mv (.tmp 0)), none⟩, ⟨(some 21), (.nilck (.tmp 20)), none⟩, ⟨(some 22), (.fad 4 (.tmp 21)), none⟩, ⟨(some 23), (.ld1 (.tmp 22)), none⟩, ⟨(some 24), (.ar .add (.tmp 19) (.tmp 23)), none⟩, ⟨(some 25), (.cmp .eql (.tmp 15) (.tmp 24)), none⟩])
    (.cond (.tmp 25)
    (.seq (.reg [⟨(some 26), (.mv (.tmp 0)), none⟩, ⟨(some 27), (.mv (.tmp 0)), none⟩, ⟨(some 28), (.mv (.tmp 0)), none⟩, ⟨(some 29), (.nilck (.tmp 28)), none⟩, ⟨(some 30), (.fad 5 (.tmp 29)), none⟩, ⟨(some 31), (.ld1 (.tmp 30)), none⟩, ⟨(some 32), (.ar .add (.tmp 31) (.const (.int .i64 1))), none⟩, ⟨(some 33), (.nilck (.tmp 26)), none⟩, ⟨(some 34), (.fad 9 (.tmp 33)), none⟩, ⟨none, (.st1 (.tmp 34) (.const (.int .i64 5))), none⟩, ⟨(some 35), (.nilck (.tmp 27)), none⟩, ⟨(some 36), (.fad 11 (.tmp 35)), none⟩, ⟨none, (.st1 (.tmp 36) (.tmp 32)), none⟩])
    (.reg [⟨(some 37), (.mv (.tmp 0)), none⟩, ⟨(some 38), (.call 104 [(.tmp 37)]), none⟩])) .skip))))⟩ := by kernel_rfl

/-- (*allotment/allotmentref8.Stripper).Step -/
theorem tr102 : trF Try.prog pures Try.f102 = some
  ⟨138, [],
    (.block 0
    (.seq (.reg [⟨(some 16), (.mv (.tmp 0)), none⟩, ⟨(some 17), (.nilck (.tmp 16)), none⟩, ⟨(some 18), (.fad 8 (.tmp 17)), none⟩, ⟨(some 19), (.ld1 (.tmp 18)), none⟩, ⟨(some 15), (.mv (.tmp 19)), none⟩])
    (.cond (.tmp 15) .skip
    (.seq (.reg [⟨(some 21), (.mv (.tmp 0)), none⟩, ⟨(some 22), (.nilck (.tmp 21)), none⟩, ⟨(some 23), (.fad 9 (.tmp 22)), none⟩, ⟨(some 24), (.ld1 (.tmp 23)), none⟩, ⟨(some 20), (.mv (.tmp 24)), none⟩])
    (.cond (.tmp 20)
    (.seq (.reg [⟨(some 25), (.mv (.tmp 0)), none⟩, ⟨(some 26), (.nilck (.tmp 25)), none⟩, ⟨(some 27), (.fad 6 (.tmp 26)), none⟩, ⟨(some 28), (.ld1 (.tmp 27)), none⟩, ⟨(some 29), (.ar .sub (.tmp 28) (.const (.int .i64 1))), none⟩, ⟨(some 30), (.nilck (.tmp 25)), none⟩, ⟨(some 31), (.fad 6 (.tmp 30)), none⟩, ⟨none, (.st1 (.tmp 31) (.tmp 29)), none⟩])
    (.seq (.draw (.take ⟨(some 32), (.mv (.tmp 1)), none⟩ (.take ⟨(some 33), (.mv (.tmp 0)), none⟩ (.take ⟨(some 34), (.nilck (.tmp 33)), none⟩ (.take ⟨(some 35), (.fad 3 (.tmp 34)), none⟩ (.take ⟨(some 36), (.ld1 (.tmp 35)), none⟩ (.take ⟨(some 37), (.mv (.tmp 0)), none⟩ (.take ⟨(some 38), (.nilck (.tmp 37)), none⟩ (.take ⟨(some 39), (.fad 0 (.tmp 38)), none⟩ (.take ⟨(some 40), (.ldn 3 (.tmp 39)), none⟩ (.take ⟨(some 41), (.mv (.tmp 0)), none⟩ (.take ⟨(some 42), (.nilck (.tmp 41)), none⟩ (.take ⟨(some 43), (.fad 4 (.tmp 42)), none⟩ (.take ⟨(some 44), (.ld1 (.tmp 43)), none⟩ (.take ⟨(some 45), (.mv (.tmp 0)), none⟩ (.take ⟨(some 46), (.nilck (.tmp 45)), none⟩ (.take ⟨(some 47), (.fad 6 (.tmp 46)), none⟩ (.take ⟨(some 48), (.ld1 (.tmp 47)), none⟩ (.take ⟨(some 50), (.mv (.tmp 0)), none⟩ (.take ⟨(some 51), (.nilck (.tmp 50)), none⟩ (.take ⟨(some 52), (.fad 5 (.tmp 51)), none⟩ (.take ⟨(some 53), (.ld1 (.tmp 52)), none⟩ (.alt false ⟨(some 49), (.pcall 30 [(.tmp 40), (.tmp 44), (.tmp 48)]), none⟩ (.alt false ⟨(some 54), (.pcall 126 [(.tmp 53)]), none⟩ (.alt true ⟨(some 55), (.call 63 [(.tmp 32), (.tmp 36), (.tmp 49), (.tmp 54)]), none⟩ .done .stop) .stop) .stop)))))))))))))))))))))))
    (.reg [⟨(some 56), (.mv (.tmp 0)), none⟩, ⟨(some 57), (.mv (.tmp 0)), none⟩, ⟨(some 58), (.nilck (.tmp 57)), none⟩, ⟨(some 59), (.fad 6 (.tmp 58)), none⟩, ⟨(some 60), (.ld1 (.tmp 59)), none⟩, ⟨(some 61), (.cmp .eql (.tmp 60) (.const (.int .i64 0))), none⟩, ⟨(some 62), (.nilck (.tmp 56)), none⟩, ⟨(some 63), (.fad 8 (.tmp 62)), none⟩, ⟨none, (.st1 (.tmp 63) (.tmp 61)), none⟩])))
    (.seq (.reg [⟨(some 65), (.mv (.tmp 0)), none⟩, ⟨(some 66), (.nilck (.tmp 65)), none⟩, ⟨(some 67), (.fad 6 (.tmp 66)), none⟩, ⟨(some 68), (.ld1 (.tmp 67)), none⟩, ⟨(some 69), (.mv (.tmp 0)), none⟩, ⟨(some 70), (.nilck (.tmp 69)), none⟩, ⟨(some 71), (.fad 5 (.tmp 70)), none⟩, ⟨(some 72), (.ld1 (.tmp 71)), none⟩, ⟨(some 73), (.pcall 28 [(.tmp 72)]), none⟩, ⟨(some 74), (.cmp .eql (.tmp 68) (.tmp 73)), none⟩, ⟨(some 64), (.mv (.tmp 74)), none⟩])
    (.cond (.tmp 64)
    (.seq (.draw (.take ⟨(some 75), (.mv (.tmp 1)), none⟩ (.take ⟨(some 76), (.mv (.tmp 0)), none⟩ (.take ⟨(some 77), (.nilck (.tmp 76)), none⟩ (.take ⟨(some 78), (.fad 3 (.tmp 77)), none⟩ (.take ⟨(some 79), (.ld1 (.tmp 78)), none⟩ (.take ⟨(some 80), (.mv (.tmp 0)), none⟩ (.take ⟨(some 81), (.nilck (.tmp 80)), none⟩ (.take ⟨(some 82), (.fad 0 (.tmp 81)), none⟩ (.take ⟨(some 83), (.ldn 3 (.tmp 82)), none⟩ (.take ⟨(some 84), (.mv (.tmp 0)), none⟩ (.take ⟨(some 85), (.nilck (.tmp 84)), none⟩ (.take ⟨(some 86), (.fad 4 (.tmp 85)), none⟩ (.take ⟨(some 87), (.ld1 (.tmp 86)), none⟩ (.take ⟨(some 89), (.mv (.tmp 0)), none⟩ (.take ⟨(some 90), (.nilck (.tmp 89)), none⟩ (.take ⟨(some 91), (.fad 3 (.tmp 90)), none⟩ (.take ⟨(some 92), (.ld1 (.tmp 91)), none⟩ (.alt false ⟨(some 88), (.pcall 27 [(.tmp 83), (.tmp 87)]), none⟩ (.alt false ⟨(some 93), (.pcall 100 [(.tmp 92)]), none⟩ (.alt true ⟨(some 94), (.call 63 [(.tmp 75), (.tmp 79), (.tmp 88), (.tmp 93)]), none⟩ .done .stop) .stop) .stop)))))))))))))))))))
    (.reg [⟨(some 95), (.mv (.tmp 0)), none⟩, ⟨(some 96), (.mv (.tmp 0)), none⟩, ⟨(some 97), (.nilck (.tmp 95)), none⟩, ⟨(some 98), (.fad 7 (.tmp 97)), none⟩, ⟨none, (.st1 (.tmp 98) (.const (.bool true))), none⟩, ⟨(some 99), (.nilck (.tmp 96)), none⟩, ⟨(some 100), (.fad 8 (.tmp 99)), none⟩, ⟨none, (.st1 (.tmp 100) (.const (.bool true))), none⟩]))
    (.seq (.draw (.take ⟨(some 102), (.mv (.tmp 1)), none⟩ (.take ⟨(some 103), (.mv (.tmp 0)), none⟩ (.take ⟨(some 104), (.nilck (.tmp 103)), none⟩ (.take ⟨(some 105), (.fad 3 (.tmp 104)), none⟩ (.take ⟨(some 106), (.ld1 (.tmp 105)), none⟩ (.take ⟨(some 107), (.mv (.tmp 0)), none⟩ (.take ⟨(some 108), (.nilck (.tmp 107)), none⟩ (.take ⟨(some 109), (.fad 0 (.tmp 108)), none⟩ (.take ⟨(some 110), (.ldn 3 (.tmp 109)), none⟩ (.take ⟨(some 111), (.mv (.tmp 0)), none⟩ (.take ⟨(some 112), (.nilck (.tmp 111)), none⟩ (.take ⟨(some 113), (.fad 4 (.tmp 112)), none⟩ (.take ⟨(some 114), (.ld1 (.tmp 113)), none⟩ (.take ⟨(some 115), (.mv (.tmp 0)), none⟩ (.take ⟨(some 116), (.nilck (.tmp 115)), none⟩ (.take ⟨(some 117), (.fad 6 (.tmp 116)), none⟩ (.take ⟨(some 118), (.ld1 (.tmp 117)), none⟩ (.take ⟨(some 120), (.mv (.tmp 0)), none⟩ (.take ⟨(some 121), (.nilck (.tmp 120)), none⟩ (.take ⟨(some 122), (.fad 5 (.tmp 121)), none⟩ (.take ⟨(some 123), (.ld1 (.tmp 122)), none⟩ (.take ⟨(some 125), (.mv (.tmp 0)), none⟩ (.take ⟨(some 126), (.nilck (.tmp 125)), none⟩ (.take ⟨(some 127), (.fad 3 (.tmp 126)), none⟩ (.take ⟨(some 128), (.ld1 (.tmp 127)), none⟩ (.alt false ⟨(some 119), (.pcall 30 [(.tmp 110), (.tmp 114), (.tmp 118)]), none⟩ (.alt false ⟨(some 124), (.pcall 126 [(.tmp 123)]), none⟩ (.alt false ⟨(some 129), (.pcall 127 [(.tmp 128)]), none⟩ (.alt false ⟨(some 130), (.call 64 [(.tmp 102), (.tmp 106), (.tmp 119), (.tmp 124), (.tmp 129)]), none⟩ (.take ⟨(some 101), (.mv (.tmp 130)), none⟩ .done) .stop) .stop) .stop) .stop)))))))))))))))))))))))))))
    (.cond (.tmp 101)
    (.reg [⟨(some 131), (.mv (.tmp 0)), none⟩, ⟨(some 132), (.nilck (.tmp 131)), none⟩, ⟨(some 133), (.fad 6 (.tmp 132)), none⟩, ⟨(some 134), (.ld1 (.tmp 133)), none⟩, ⟨(some 135), (.ar .add (.tmp 134) (.const (.int .i64 1))), none⟩, ⟨(some 136), (.nilck (.tmp 131)), none⟩, ⟨(some 137), (.fad 6 (.tmp 136)), none⟩, ⟨none, (.st1 (.tmp 137) (.tmp 135)), none⟩])
    (.seq (.reg [⟨(some 4), (.mv (.tmp 0)), none⟩, ⟨(some 5), (.nilck (.tmp 4)), none⟩, ⟨(some 6), (.fad 9 (.tmp 5)), none⟩, ⟨none, (.st1 (.tmp 6) (.const (.bool true))), none⟩])
    (.reg [⟨(some 7), (.mv (.tmp 0)), none⟩, ⟨(some 8), (.mv (.tmp 0)), none⟩, ⟨(some 9), (.nilck (.tmp 8)), none⟩, ⟨(some 10), (.fad 6 (.tmp 9)), none⟩, ⟨(some 11), (.ld1 (.tmp 10)), none⟩, ⟨(some 12), (.cmp .eql (.tmp 11) (.const (.int .i64 0))), none⟩, ⟨(some 13), (.nilck (.tmp 7)), none⟩, ⟨(some 14), (.fad 8 (.tmp 13)), none⟩, ⟨none, (.st1 (.tmp 14) (.tmp 12)), none⟩])))))))))))⟩ := by kernel_rfl

/-- (*allotment/allotmentref8.Runner).backOver -/
theorem tr103 : trF Try.prog pures Try.f103 = some
  ⟨46, [],
    (.seq (.seq
    (.reg [⟨(some 2), (.mv (.tmp 0)), none⟩, ⟨(some 3), (.nilck (.tmp 2)), none⟩, ⟨(some 4), (.fad 11 (.tmp 3)), none⟩, ⟨(some 5), (.ld1 (.tmp 4)), none⟩, ⟨(some 6), (.mv (.tmp 0)), none⟩, ⟨(some 7), (.nilck (.tmp 6)), none⟩, ⟨(some 8), (.fad 5 (.tmp 7)), none⟩, ⟨(some 9), (.ld1 (.tmp 8)), none⟩, ⟨(some 10), (.cmp .gtr (.tmp 5) (.tmp 9)), none⟩])
    (.cond (.tmp 10) .ret .skip))
    (.seq (.draw (.take ⟨(some 11), (.mv (.tmp 0)), none⟩ (.take ⟨(some 12), (.mv (.tmp 0)), none⟩ (.take ⟨(some 13), (.mv (.tmp 0)), none⟩ (.take ⟨(some 14), (.mv (.tmp 0)), none⟩ (.take ⟨(some 15), (.nilck (.tmp 14)), none⟩ (.take ⟨(some 16), (.fad 10 (.tmp 15)), none⟩ (.take ⟨(some 17), (.ld1 (.tmp 16)), none⟩ (.take ⟨(some 18), (.mv (.tmp 0)), none⟩ (.take ⟨(some 19), (.nilck (.tmp 18)), none⟩ (.take ⟨(some 20), (.fad 10 (.tmp 19)), none⟩ (.take ⟨(some 21), (.ld1 (.tmp 20)), none⟩ (.take ⟨(some 22), (.nilck (.tmp 11)), none⟩ (.take ⟨(some 23), (.fad 5 (.tmp 22)), none⟩ (.alt false ⟨none, (.st1 (.tmp 23) (.tmp 17)), none⟩ (.take ⟨(some 24), (.nilck (.tmp 12)), none⟩ (.take ⟨(some 25), (.fad 6 (.tmp 24)), none⟩ (.alt false ⟨none, (.st1 (.tmp 25) (.tmp 21)), none⟩ (.take ⟨(some 26), (.nilck (.tmp 13)), none⟩ (.take ⟨(some 27), (.fad 9 (.tmp 26)), none⟩ (.alt true ⟨none, (.st1 (.tmp 27) (.const (.int .i64 0))), none⟩ .done .stop))) .stop))) .stop)))))))))))))))
    (.draw (.take ⟨(some 28), (.mv (.tmp 0)), none⟩ (.take ⟨(some 29), (.mv (.tmp 0)), none⟩ (.take ⟨(some 30), (.nilck (.tmp 29)), none⟩ (.take ⟨(some 31), (.fad 5 (.tmp 30)), none⟩ (.take ⟨(some 32), (.ld1 (.tmp 31)), none⟩ (.take ⟨(some 33), (.mv (.tmp 0)), none⟩ (.take ⟨(some 34), (.nilck (.tmp 33)), none⟩ (.take ⟨(some 35), (.fad 0 (.tmp 34)), none⟩ (.take ⟨(some 36), (.fad 0 (.tmp 35)), none⟩ (.take ⟨(some 37), (.ld1 (.tmp 36)), none⟩ (.take ⟨(some 38), (.mv (.tmp 0)), none⟩ (.take ⟨(some 39), (.nilck (.tmp 38)), none⟩ (.take ⟨(some 40), (.fad 4 (.tmp 39)), none⟩ (.take ⟨(some 41), (.ld1 (.tmp 40)), none⟩ (.take ⟨(some 42), (.ar .sub (.tmp 37) (.tmp 41)), none⟩ (.take ⟨(some 43), (.cmp .gtr (.tmp 32) (.tmp 42)), none⟩ (.take ⟨(some 44), (.nilck (.tmp 28)), none⟩ (.take ⟨(some 45), (.fad 8 (.tmp 44)), none⟩ (.alt true ⟨none, (.st1 (.tmp 45) (.tmp 43)), none⟩ .done .stop))))))))))))))))))))))⟩ := by kernel_rfl

/-- (*allotment/allotmentref8.Runner).bodiesOver -/
theorem tr104 : trF Try.prog pures Try.f104 = some
  ⟨22, [],
    (.seq (.reg [⟨(some 2), (.mv (.tmp 0)), none⟩, ⟨(some 3), (.nilck (.tmp 2)), none⟩, ⟨(some 4), (.fad 11 (.tmp 3)), none⟩, ⟨(some 5), (.ld1 (.tmp 4)), none⟩, ⟨(some 6), (.mv (.tmp 0)), none⟩, ⟨(some 7), (.nilck (.tmp 6)), none⟩, ⟨(some 8), (.fad 5 (.tmp 7)), none⟩, ⟨(some 9), (.ld1 (.tmp 8)), none⟩, ⟨(some 10), (.mv (.tmp 0)), none⟩, ⟨(some 11), (.nilck (.tmp 10)), none⟩, ⟨(some 12), (.fad 4 (.tmp 11)), none⟩, ⟨(some 13), (.ld1 (.tmp 12)), none⟩, ⟨(some 14), (.ar .add (.tmp 9) (.tmp 13)), none⟩, ⟨(some 15), (.cmp .eql (.tmp 5) (.tmp 14)), none⟩])
    (.cond (.tmp 15)
    (.reg [⟨(some 16), (.mv (.tmp 0)), none⟩, ⟨(some 17), (.mv (.tmp 0)), none⟩, ⟨(some 18), (.nilck (.tmp 16)), none⟩, ⟨(some 19), (.fad 7 (.tmp 18)), none⟩, ⟨none, (.st1 (.tmp 19) (.const (.bool true))), none⟩, ⟨(some 20), (.nilck (.tmp 17)), none⟩, ⟨(some 21), (.fad 8 (.tmp 20)), none⟩, ⟨none, (.st1 (.tmp 21) (.const (.bool true))), none⟩]) .skip))⟩ := by kernel_rfl

/-- (*allotment/allotmentref8.Freer).read -/
theorem tr106 : trF Try.prog pures Try.f106 = some
  ⟨111, [],
    (.seq (.reg [⟨(some 10), (.mv (.tmp 0)), none⟩, ⟨(some 11), (.nilck (.tmp 10)), none⟩, ⟨(some 12), (.fad 0 (.tmp 11)), none⟩, ⟨(some 13), (.ldn 3 (.tmp 12)), none⟩, ⟨(some 14), (.mv (.tmp 0)), none⟩, ⟨(some 15), (.nilck (.tmp 14)), none⟩, ⟨(some 16), (.fad 4 (.tmp 15)), none⟩, ⟨(some 17), (.ld1 (.tmp 16)), none⟩, ⟨(some 18), (.pcall 105 [(.tmp 13), (.tmp 17)]), none⟩, ⟨(some 9), (.mv (.tmp 18)), none⟩, ⟨(some 19), (.ext 0 (.tmp 9)), none⟩, ⟨(some 20), (.ext 1 (.tmp 9)), none⟩, ⟨(some 21), (.ext 2 (.tmp 9)), none⟩, ⟨(some 4), (.mv (.tmp 19)), none⟩, ⟨(some 5), (.mv (.tmp 20)), none⟩, ⟨(some 6), (.mv (.tmp 21)), none⟩])
    (.seq (.draw (.take ⟨(some 22), (.mv (.tmp 0)), none⟩ (.take ⟨(some 23), (.mv (.tmp 1)), none⟩ (.take ⟨(some 24), (.mv (.tmp 0)), none⟩ (.take ⟨(some 25), (.nilck (.tmp 24)), none⟩ (.take ⟨(some 26), (.fad 3 (.tmp 25)), none⟩ (.take ⟨(some 27), (.ld1 (.tmp 26)), none⟩ (.take ⟨(some 28), (.mv (.tmp 0)), none⟩ (.take ⟨(some 29), (.nilck (.tmp 28)), none⟩ (.take ⟨(some 30), (.fad 0 (.tmp 29)), none⟩ (.take ⟨(some 31), (.ldn 3 (.tmp 30)), none⟩ (.take ⟨(some 32), (.mv (.tmp 4)), none⟩ (.alt false ⟨(some 33), (.pcall 27 [(.tmp 31), (.tmp 32)]), none⟩ (.alt false ⟨(some 34), (.call 61 [(.tmp 23), (.tmp 27), (.tmp 33)]), none⟩ (.take ⟨(some 35), (.nilck (.tmp 22)), none⟩ (.take ⟨(some 36), (.fad 14 (.tmp 35)), none⟩ (.alt true ⟨none, (.st1 (.tmp 36) (.tmp 34)), none⟩ .done .stop))) .stop) .stop)))))))))))))
    (.seq (.draw (.take ⟨(some 38), (.mv (.tmp 0)), none⟩ (.take ⟨(some 39), (.nilck (.tmp 38)), none⟩ (.take ⟨(some 40), (.fad 0 (.tmp 39)), none⟩ (.take ⟨(some 41), (.ldn 3 (.tmp 40)), none⟩ (.take ⟨(some 42), (.mv (.tmp 4)), none⟩ (.take ⟨(some 43), (.mv (.tmp 0)), none⟩ (.take ⟨(some 44), (.nilck (.tmp 43)), none⟩ (.take ⟨(some 45), (.fad 14 (.tmp 44)), none⟩ (.take ⟨(some 46), (.ld1 (.tmp 45)), none⟩ (.alt false ⟨(some 47), (.pcall 97 [(.tmp 41), (.tmp 42), (.tmp 46)]), none⟩ (.take ⟨(some 37), (.mv (.tmp 47)), none⟩ (.take ⟨(some 48), (.ext 0 (.tmp 37)), none⟩ (.take ⟨(some 49), (.ext 1 (.tmp 37)), none⟩ (.alt false ⟨(some 7), (.alc 53 (.agg #[(.int .i64 0), (.int .i64 0), (.int .i64 0)])), none⟩ (.alt false ⟨none, (.stn 3 (.tmp 7) (.tmp 48)), none⟩ (.take ⟨(some 8), (.mv (.tmp 49)), none⟩ .done) .stop) .stop)))) (.alt false ⟨(some 7), (.alc 53 (.agg #[(.int .i64 0), (.int .i64 0), (.int .i64 0)])), none⟩ (.alt false ⟨(some 47), (.pcall 97 [(.tmp 41), (.tmp 42), (.tmp 46)]), none⟩ (.take ⟨(some 37), (.mv (.tmp 47)), none⟩ (.take ⟨(some 48), (.ext 0 (.tmp 37)), none⟩ (.take ⟨(some 49), (.ext 1 (.tmp 37)), none⟩ (.alt false ⟨none, (.stn 3 (.tmp 7) (.tmp 48)), none⟩ (.take ⟨(some 8), (.mv (.tmp 49)), none⟩ .done) .stop)))) .stop) .stop))))))))))))
    (.seq (.reg [⟨(some 50), (.mv (.tmp 0)), none⟩, ⟨(some 51), (.nilck (.tmp 50)), none⟩, ⟨(some 52), (.fad 7 (.tmp 51)), none⟩, ⟨none, (.st1 (.tmp 52) (.const (.int .i64 1))), none⟩])
    (.block 0
    (.seq (.reg [⟨(some 57), (.mv (.tmp 8)), none⟩, ⟨(some 58), (.mv (.tmp 57)), none⟩, ⟨(some 59), (.fad 0 (.tmp 7)), (some (58, true))⟩, ⟨(some 60), (.ld1 (.tmp 59)), (some (58, true))⟩, ⟨(some 61), (.cmp .eql (.tmp 60) (.const (.int .i64 3))), (some (58, true))⟩, ⟨(some 62), (.pick (.tmp 58) (.tmp 61) (.const (.bool false))), none⟩, ⟨(some 63), (.mv (.tmp 62)), none⟩, ⟨(some 64), (.mv (.tmp 5)), (some (63, true))⟩, ⟨(some 65), (.cmp .eql (.tmp 64) (.const (.int .i64 0))), (some (63, true))⟩, ⟨(some 66), (.pick (.tmp 63) (.tmp 65) (.const (.bool false))), none⟩, ⟨(some 56), (.mv (.tmp 66)), none⟩])
    (.cond (.tmp 56)
    (.reg [⟨(some 67), (.mv (.tmp 0)), none⟩, ⟨(some 68), (.mv (.tmp 4)), none⟩, ⟨(some 69), (.fad 1 (.tmp 7)), none⟩, ⟨(some 70), (.ld1 (.tmp 69)), none⟩, ⟨(some 71), (.bld #[(.bool false), (.int .i64 0), (.int .i64 0), (.int .i64 0), (.int .i64 0)] [(0, (1, (.const (.bool true)))), (1, (1, (.tmp 68))), (4, (1, (.tmp 70)))]), none⟩, ⟨(some 72), (.nilck (.tmp 67)), none⟩, ⟨(some 73), (.fad 8 (.tmp 72)), none⟩, ⟨none, (.stn 5 (.tmp 73) (.tmp 71)), none⟩])
    (.seq (.reg [⟨(some 75), (.mv (.tmp 8)), none⟩, ⟨(some 76), (.mv (.tmp 75)), none⟩, ⟨(some 77), (.fad 0 (.tmp 7)), (some (76, true))⟩, ⟨(some 78), (.ld1 (.tmp 77)), (some (76, true))⟩, ⟨(some 79), (.cmp .eql (.tmp 78) (.const (.int .i64 2))), (some (76, true))⟩, ⟨(some 80), (.pick (.tmp 76) (.tmp 79) (.const (.bool false))), none⟩, ⟨(some 81), (.mv (.tmp 80)), none⟩, ⟨(some 82), (.mv (.tmp 5)), (some (81, true))⟩, ⟨(some 83), (.fad 1 (.tmp 7)), (some (81, true))⟩, ⟨(some 84), (.ld1 (.tmp 83)), (some (81, true))⟩, ⟨(some 85), (.pcall 36 [(.tmp 84)]), (some (81, true))⟩, ⟨(some 86), (.dv .rem (.tmp 82) (.tmp 85)), (some (81, true))⟩, ⟨(some 87), (.cmp .eql (.tmp 86) (.const (.int .i64 0))), (some (81, true))⟩, ⟨(some 88), (.pick (.tmp 81) (.tmp 87) (.const (.bool false))), none⟩, ⟨(some 74), (.mv (.tmp 88)), none⟩])
    (.cond (.tmp 74)
    (.seq (.draw (.take ⟨(some 89), (.mv (.tmp 0)), none⟩ (.take ⟨(some 90), (.mv (.tmp 4)), none⟩ (.take ⟨(some 91), (.mv (.tmp 5)), none⟩ (.take ⟨(some 92), (.fad 1 (.tmp 7)), none⟩ (.take ⟨(some 93), (.ld1 (.tmp 92)), none⟩ (.take ⟨(some 96), (.fad 1 (.tmp 7)), none⟩ (.take ⟨(some 97), (.ld1 (.tmp 96)), none⟩ (.alt false ⟨(some 94), (.pcall 36 [(.tmp 93)]), none⟩ (.take ⟨(some 95), (.dv .quo (.tmp 91) (.tmp 94)), none⟩ (.take ⟨(some 98), (.bld #[(.bool false), (.int .i64 0), (.int .i64 0), (.int .i64 0), (.int .i64 0)] [(1, (1, (.tmp 90))), (2, (1, (.tmp 95))), (3, (1, (.tmp 97)))]), none⟩ (.take ⟨(some 99), (.nilck (.tmp 89)), none⟩ (.take ⟨(some 100), (.fad 8 (.tmp 99)), none⟩ (.alt true ⟨none, (.stn 5 (.tmp 100) (.tmp 98)), none⟩ .done .stop))))) .stop)))))))))
    (.draw (.take ⟨(some 101), (.mv (.tmp 0)), none⟩ (.take ⟨(some 102), (.fad 2 (.tmp 7)), none⟩ (.take ⟨(some 103), (.ld1 (.tmp 102)), none⟩ (.take ⟨(some 104), (.mv (.tmp 0)), none⟩ (.take ⟨(some 105), (.nilck (.tmp 104)), none⟩ (.take ⟨(some 106), (.fad 3 (.tmp 105)), none⟩ (.take ⟨(some 107), (.ld1 (.tmp 106)), none⟩ (.take ⟨(some 108), (.cmp .eql (.tmp 103) (.tmp 107)), none⟩ (.take ⟨(some 109), (.nilck (.tmp 101)), none⟩ (.take ⟨(some 110), (.fad 13 (.tmp 109)), none⟩ (.alt true ⟨none, (.st1 (.tmp 110) (.tmp 108)), none⟩ .done .stop)))))))))))))
    (.reg [⟨(some 53), (.mv (.tmp 0)), none⟩, ⟨(some 54), (.nilck (.tmp 53)), none⟩, ⟨(some 55), (.fad 6 (.tmp 54)), none⟩, ⟨none, (.st1 (.tmp 55) (.const (.bool true))), none⟩]))))))))))⟩ := by kernel_rfl

/-- (*allotment/allotmentref8.Freer).swap -/
theorem tr107 : trF Try.prog pures Try.f107 = some
  ⟨130, [],
    (.seq (.reg [⟨(some 4), (.mv (.tmp 0)), none⟩, ⟨(some 5), (.nilck (.tmp 4)), none⟩, ⟨(some 6), (.fad 7 (.tmp 5)), none⟩, ⟨none, (.st1 (.tmp 6) (.const (.int .i64 2))), none⟩])
    (.seq (.seq
    (.reg [⟨(some 7), (.mv (.tmp 0)), none⟩, ⟨(some 8), (.nilck (.tmp 7)), none⟩, ⟨(some 9), (.fad 8 (.tmp 8)), none⟩, ⟨(some 10), (.fad 0 (.tmp 9)), none⟩, ⟨(some 11), (.ld1 (.tmp 10)), none⟩])
    (.cond (.tmp 11)
    (.draw (.take ⟨(some 12), (.mv (.tmp 0)), none⟩ (.take ⟨(some 13), (.mv (.tmp 1)), none⟩ (.take ⟨(some 14), (.mv (.tmp 0)), none⟩ (.take ⟨(some 15), (.nilck (.tmp 14)), none⟩ (.take ⟨(some 16), (.fad 3 (.tmp 15)), none⟩ (.take ⟨(some 17), (.ld1 (.tmp 16)), none⟩ (.take ⟨(some 18), (.mv (.tmp 0)), none⟩ (.take ⟨(some 19), (.nilck (.tmp 18)), none⟩ (.take ⟨(some 20), (.fad 0 (.tmp 19)), none⟩ (.take ⟨(some 21), (.ldn 3 (.tmp 20)), none⟩ (.take ⟨(some 22), (.mv (.tmp 0)), none⟩ (.take ⟨(some 23), (.nilck (.tmp 22)), none⟩ (.take ⟨(some 24), (.fad 8 (.tmp 23)), none⟩ (.take ⟨(some 25), (.fad 1 (.tmp 24)), none⟩ (.take ⟨(some 26), (.ld1 (.tmp 25)), none⟩ (.take ⟨(some 28), (.mv (.tmp 0)), none⟩ (.take ⟨(some 29), (.nilck (.tmp 28)), none⟩ (.take ⟨(some 30), (.fad 14 (.tmp 29)), none⟩ (.take ⟨(some 31), (.ld1 (.tmp 30)), none⟩ (.take ⟨(some 32), (.mv (.tmp 0)), none⟩ (.take ⟨(some 33), (.nilck (.tmp 32)), none⟩ (.take ⟨(some 34), (.fad 3 (.tmp 33)), none⟩ (.take ⟨(some 35), (.ld1 (.tmp 34)), none⟩ (.alt false ⟨(some 27), (.pcall 27 [(.tmp 21), (.tmp 26)]), none⟩ (.alt false ⟨(some 36), (.pcall 100 [(.tmp 35)]), none⟩ (.alt false ⟨(some 37), (.call 64 [(.tmp 13), (.tmp 17), (.tmp 27), (.tmp 31), (.tmp 36)]), none⟩ (.take ⟨(some 38), (.nilck (.tmp 12)), none⟩ (.take ⟨(some 39), (.fad 5 (.tmp 38)), none⟩ (.alt true ⟨none, (.st1 (.tmp 39) (.tmp 37)), none⟩ .done .stop))) .stop) .stop) .stop)))))))))))))))))))))))))
    (.seq (.draw (.take ⟨(some 40), (.mv (.tmp 0)), none⟩ (.take ⟨(some 41), (.mv (.tmp 1)), none⟩ (.take ⟨(some 42), (.mv (.tmp 0)), none⟩ (.take ⟨(some 43), (.nilck (.tmp 42)), none⟩ (.take ⟨(some 44), (.fad 3 (.tmp 43)), none⟩ (.take ⟨(some 45), (.ld1 (.tmp 44)), none⟩ (.take ⟨(some 46), (.mv (.tmp 0)), none⟩ (.take ⟨(some 47), (.nilck (.tmp 46)), none⟩ (.take ⟨(some 48), (.fad 0 (.tmp 47)), none⟩ (.take ⟨(some 49), (.ldn 3 (.tmp 48)), none⟩ (.take ⟨(some 50), (.mv (.tmp 0)), none⟩ (.take ⟨(some 51), (.nilck (.tmp 50)), none⟩ (.take ⟨(some 52), (.fad 8 (.tmp 51)), none⟩ (.take ⟨(some 53), (.fad 1 (.tmp 52)), none⟩ (.take ⟨(some 54), (.ld1 (.tmp 53)), none⟩ (.take ⟨(some 55), (.mv (.tmp 0)), none⟩ (.take ⟨(some 56), (.nilck (.tmp 55)), none⟩ (.take ⟨(some 57), (.fad 8 (.tmp 56)), none⟩ (.take ⟨(some 58), (.fad 2 (.tmp 57)), none⟩ (.take ⟨(some 59), (.ld1 (.tmp 58)), none⟩ (.take ⟨(some 61), (.mv (.tmp 0)), none⟩ (.take ⟨(some 62), (.nilck (.tmp 61)), none⟩ (.take ⟨(some 63), (.fad 8 (.tmp 62)), none⟩ (.take ⟨(some 64), (.fad 3 (.tmp 63)), none⟩ (.take ⟨(some 65), (.ld1 (.tmp 64)), none⟩ (.take ⟨(some 67), (.mv (.tmp 0)), none⟩ (.take ⟨(some 68), (.nilck (.tmp 67)), none⟩ (.take ⟨(some 69), (.fad 3 (.tmp 68)), none⟩ (.take ⟨(some 70), (.ld1 (.tmp 69)), none⟩ (.alt false ⟨(some 60), (.pcall 30 [(.tmp 49), (.tmp 54), (.tmp 59)]), none⟩ (.alt false ⟨(some 66), (.pcall 128 [(.tmp 65)]), none⟩ (.alt false ⟨(some 71), (.pcall 127 [(.tmp 70)]), none⟩ (.alt false ⟨(some 72), (.call 64 [(.tmp 41), (.tmp 45), (.tmp 60), (.tmp 66), (.tmp 71)]), none⟩ (.take ⟨(some 73), (.nilck (.tmp 40)), none⟩ (.take ⟨(some 74), (.fad 5 (.tmp 73)), none⟩ (.alt true ⟨none, (.st1 (.tmp 74) (.tmp 72)), none⟩ .done .stop))) .stop) .stop) .stop) .stop)))))))))))))))))))))))))))))))
    (.seq (.reg [⟨(some 75), (.mv (.tmp 0)), none⟩, ⟨(some 76), (.nilck (.tmp 75)), none⟩, ⟨(some 77), (.fad 13 (.tmp 76)), none⟩, ⟨(some 78), (.ld1 (.tmp 77)), none⟩])
    (.cond (.tmp 78)
    (.draw (.take ⟨(some 79), (.mv (.tmp 0)), none⟩ (.take ⟨(some 80), (.mv (.tmp 0)), none⟩ (.take ⟨(some 81), (.nilck (.tmp 80)), none⟩ (.take ⟨(some 82), (.fad 0 (.tmp 81)), none⟩ (.take ⟨(some 83), (.ldn 3 (.tmp 82)), none⟩ (.take ⟨(some 84), (.mv (.tmp 0)), none⟩ (.take ⟨(some 85), (.nilck (.tmp 84)), none⟩ (.take ⟨(some 86), (.fad 3 (.tmp 85)), none⟩ (.take ⟨(some 87), (.ld1 (.tmp 86)), none⟩ (.take ⟨(some 88), (.mv (.tmp 0)), none⟩ (.take ⟨(some 89), (.nilck (.tmp 88)), none⟩ (.take ⟨(some 90), (.fad 8 (.tmp 89)), none⟩ (.take ⟨(some 91), (.fad 1 (.tmp 90)), none⟩ (.take ⟨(some 92), (.ld1 (.tmp 91)), none⟩ (.take ⟨(some 93), (.mv (.tmp 0)), none⟩ (.take ⟨(some 94), (.nilck (.tmp 93)), none⟩ (.take ⟨(some 95), (.fad 8 (.tmp 94)), none⟩ (.take ⟨(some 96), (.fad 2 (.tmp 95)), none⟩ (.take ⟨(some 97), (.ld1 (.tmp 96)), none⟩ (.take ⟨(some 98), (.mv (.tmp 0)), none⟩ (.take ⟨(some 99), (.nilck (.tmp 98)), none⟩ (.take ⟨(some 100), (.fad 8 (.tmp 99)), none⟩ (.take ⟨(some 101), (.fad 3 (.tmp 100)), none⟩ (.take ⟨(some 102), (.ld1 (.tmp 101)), none⟩ (.alt false ⟨(some 103), (.call 129 [(.tmp 83), (.tmp 87), (.tmp 92), (.tmp 97), (.tmp 102)]), none⟩ (.take ⟨(some 104), (.nilck (.tmp 79)), none⟩ (.take ⟨(some 105), (.fad 16 (.tmp 104)), none⟩ (.alt true ⟨none, (.st1 (.tmp 105) (.tmp 103)), none⟩ .done .stop))) .stop)))))))))))))))))))))))))) .skip)))))
    (.seq (.draw (.take ⟨(some 106), (.mv (.tmp 0)), none⟩ (.take ⟨(some 107), (.mv (.tmp 0)), none⟩ (.take ⟨(some 108), (.nilck (.tmp 107)), none⟩ (.take ⟨(some 109), (.fad 0 (.tmp 108)), none⟩ (.take ⟨(some 110), (.ldn 3 (.tmp 109)), none⟩ (.take ⟨(some 111), (.mv (.tmp 0)), none⟩ (.take ⟨(some 112), (.nilck (.tmp 111)), none⟩ (.take ⟨(some 113), (.fad 3 (.tmp 112)), none⟩ (.take ⟨(some 114), (.ld1 (.tmp 113)), none⟩ (.take ⟨(some 115), (.mv (.tmp 0)), none⟩ (.take ⟨(some 116), (.nilck (.tmp 115)), none⟩ (.take ⟨(some 117), (.fad 8 (.tmp 116)), none⟩ (.take ⟨(some 118), (.ldn 5 (.tmp 117)), none⟩ (.alt false ⟨(some 119), (.call 130 [(.tmp 110), (.tmp 114), (.tmp 118)]), none⟩ (.take ⟨(some 120), (.nilck (.tmp 106)), none⟩ (.take ⟨(some 121), (.fad 15 (.tmp 120)), none⟩ (.alt true ⟨none, (.st1 (.tmp 121) (.tmp 119)), none⟩ .done .stop))) .stop)))))))))))))))
    (.reg [⟨(some 122), (.mv (.tmp 0)), none⟩, ⟨(some 123), (.mv (.tmp 0)), none⟩, ⟨(some 124), (.nilck (.tmp 123)), none⟩, ⟨(some 125), (.fad 5 (.tmp 124)), none⟩, ⟨(some 126), (.ld1 (.tmp 125)), none⟩, ⟨(some 127), (.nt (.tmp 126)), none⟩, ⟨(some 128), (.nilck (.tmp 122)), none⟩, ⟨(some 129), (.fad 6 (.tmp 128)), none⟩, ⟨none, (.st1 (.tmp 129) (.tmp 127)), none⟩]))))⟩ := by kernel_rfl

/-- (*allotment/allotmentref8.Putter).Step -/
theorem tr108 : trF Try.prog pures Try.f108 = some
  ⟨88, [],
    (.block 0
    (.seq (.reg [⟨(some 25), (.mv (.tmp 0)), none⟩, ⟨(some 26), (.nilck (.tmp 25)), none⟩, ⟨(some 27), (.fad 9 (.tmp 26)), none⟩, ⟨(some 28), (.ld1 (.tmp 27)), none⟩, ⟨(some 24), (.mv (.tmp 28)), none⟩])
    (.cond (.tmp 24) .skip
    (.seq (.reg [⟨(some 30), (.mv (.tmp 0)), none⟩, ⟨(some 31), (.nilck (.tmp 30)), none⟩, ⟨(some 32), (.fad 10 (.tmp 31)), none⟩, ⟨(some 33), (.ld1 (.tmp 32)), none⟩, ⟨(some 29), (.mv (.tmp 33)), none⟩])
    (.cond (.tmp 29)
    (.seq (.draw (.take ⟨(some 34), (.mv (.tmp 1)), none⟩ (.take ⟨(some 35), (.mv (.tmp 0)), none⟩ (.take ⟨(some 36), (.nilck (.tmp 35)), none⟩ (.take ⟨(some 37), (.fad 3 (.tmp 36)), none⟩ (.take ⟨(some 38), (.ld1 (.tmp 37)), none⟩ (.take ⟨(some 39), (.mv (.tmp 0)), none⟩ (.take ⟨(some 40), (.nilck (.tmp 39)), none⟩ (.take ⟨(some 41), (.fad 0 (.tmp 40)), none⟩ (.take ⟨(some 42), (.ldn 3 (.tmp 41)), none⟩ (.take ⟨(some 43), (.mv (.tmp 0)), none⟩ (.take ⟨(some 44), (.nilck (.tmp 43)), none⟩ (.take ⟨(some 45), (.fad 3 (.tmp 44)), none⟩ (.take ⟨(some 46), (.ld1 (.tmp 45)), none⟩ (.take ⟨(some 47), (.mv (.tmp 0)), none⟩ (.take ⟨(some 48), (.nilck (.tmp 47)), none⟩ (.take ⟨(some 49), (.fad 4 (.tmp 48)), none⟩ (.take ⟨(some 50), (.ld1 (.tmp 49)), none⟩ (.take ⟨(some 52), (.mv (.tmp 0)), none⟩ (.take ⟨(some 53), (.nilck (.tmp 52)), none⟩ (.take ⟨(some 54), (.fad 5 (.tmp 53)), none⟩ (.take ⟨(some 55), (.ldn 3 (.tmp 54)), none⟩ (.alt false ⟨(some 51), (.pcall 41 [(.tmp 42), (.tmp 46), (.tmp 50)]), none⟩ (.alt false ⟨(some 56), (.pcall 42 [(.tmp 55)]), none⟩ (.alt true ⟨(some 57), (.call 63 [(.tmp 34), (.tmp 38), (.tmp 51), (.tmp 56)]), none⟩ .done .stop) .stop) .stop)))))))))))))))))))))))
    (.reg [⟨(some 58), (.mv (.tmp 0)), none⟩, ⟨(some 59), (.mv (.tmp 0)), none⟩, ⟨(some 60), (.nilck (.tmp 58)), none⟩, ⟨(some 61), (.fad 8 (.tmp 60)), none⟩, ⟨none, (.st1 (.tmp 61) (.const (.bool true))), none⟩, ⟨(some 62), (.nilck (.tmp 59)), none⟩, ⟨(some 63), (.fad 9 (.tmp 62)), none⟩, ⟨none, (.st1 (.tmp 63) (.const (.bool true))), none⟩]))
    (.seq (.draw (.take ⟨(some 65), (.mv (.tmp 1)), none⟩ (.take ⟨(some 66), (.mv (.tmp 0)), none⟩ (.take ⟨(some 67), (.nilck (.tmp 66)), none⟩ (.take ⟨(some 68), (.fad 3 (.tmp 67)), none⟩ (.take ⟨(some 69), (.ld1 (.tmp 68)), none⟩ (.take ⟨(some 70), (.mv (.tmp 0)), none⟩ (.take ⟨(some 71), (.nilck (.tmp 70)), none⟩ (.take ⟨(some 72), (.fad 0 (.tmp 71)), none⟩ (.take ⟨(some 73), (.ldn 3 (.tmp 72)), none⟩ (.take ⟨(some 74), (.mv (.tmp 0)), none⟩ (.take ⟨(some 75), (.nilck (.tmp 74)), none⟩ (.take ⟨(some 76), (.fad 3 (.tmp 75)), none⟩ (.take ⟨(some 77), (.ld1 (.tmp 76)), none⟩ (.take ⟨(some 78), (.mv (.tmp 0)), none⟩ (.take ⟨(some 79), (.nilck (.tmp 78)), none⟩ (.take ⟨(some 80), (.fad 4 (.tmp 79)), none⟩ (.take ⟨(some 81), (.ld1 (.tmp 80)), none⟩ (.alt false ⟨(some 82), (.pcall 41 [(.tmp 73), (.tmp 77), (.tmp 81)]), none⟩ (.alt false ⟨(some 83), (.call 61 [(.tmp 65), (.tmp 69), (.tmp 82)]), none⟩ (.take ⟨(some 84), (.cmp .eql (.tmp 83) (.const (.int .u64 0))), none⟩ (.take ⟨(some 64), (.mv (.tmp 84)), none⟩ .done)) .stop) .stop)))))))))))))))))))
    (.cond (.tmp 64)
    (.reg [⟨(some 85), (.mv (.tmp 0)), none⟩, ⟨(some 86), (.nilck (.tmp 85)), none⟩, ⟨(some 87), (.fad 10 (.tmp 86)), none⟩, ⟨none, (.st1 (.tmp 87) (.const (.bool true))), none⟩])
    (.seq (.reg [⟨(some 4), (.mv (.tmp 0)), none⟩, ⟨(some 5), (.nilck (.tmp 4)), none⟩, ⟨(some 6), (.fad 4 (.tmp 5)), none⟩, ⟨(some 7), (.ld1 (.tmp 6)), none⟩, ⟨(some 8), (.ar .add (.tmp 7) (.const (.int .i64 1))), none⟩, ⟨(some 9), (.nilck (.tmp 4)), none⟩, ⟨(some 10), (.fad 4 (.tmp 9)), none⟩, ⟨none, (.st1 (.tmp 10) (.tmp 8)), none⟩])
    (.draw (.take ⟨(some 11), (.mv (.tmp 0)), none⟩ (.take ⟨(some 12), (.mv (.tmp 0)), none⟩ (.take ⟨(some 13), (.nilck (.tmp 12)), none⟩ (.take ⟨(some 14), (.fad 4 (.tmp 13)), none⟩ (.take ⟨(some 15), (.ld1 (.tmp 14)), none⟩ (.take ⟨(some 16), (.mv (.tmp 0)), none⟩ (.take ⟨(some 17), (.nilck (.tmp 16)), none⟩ (.take ⟨(some 18), (.fad 0 (.tmp 17)), none⟩ (.take ⟨(some 19), (.fad 2 (.tmp 18)), none⟩ (.take ⟨(some 20), (.ld1 (.tmp 19)), none⟩ (.take ⟨(some 21), (.cmp .eql (.tmp 15) (.tmp 20)), none⟩ (.take ⟨(some 22), (.nilck (.tmp 11)), none⟩ (.take ⟨(some 23), (.fad 9 (.tmp 22)), none⟩ (.alt true ⟨none, (.st1 (.tmp 23) (.tmp 21)), none⟩ .done .stop)))))))))))))))))))))))⟩ := by kernel_rfl

/-- (*allotment/allotmentref8.Undoer).Step -/
theorem tr109 : trF Try.prog pures Try.f109 = some
  ⟨103, [],
    (.block 0
    (.seq (.reg [⟨(some 62), (.mv (.tmp 0)), none⟩, ⟨(some 63), (.nilck (.tmp 62)), none⟩, ⟨(some 64), (.fad 10 (.tmp 63)), none⟩, ⟨(some 65), (.ld1 (.tmp 64)), none⟩, ⟨(some 61), (.mv (.tmp 65)), none⟩])
    (.cond (.tmp 61) .skip
    (.seq (.reg [⟨(some 67), (.mv (.tmp 0)), none⟩, ⟨(some 68), (.nilck (.tmp 67)), none⟩, ⟨(some 69), (.fad 5 (.tmp 68)), none⟩, ⟨(some 70), (.fad 0 (.tmp 69)), none⟩, ⟨(some 71), (.ld1 (.tmp 70)), none⟩, ⟨(some 72), (.nt (.tmp 71)), none⟩, ⟨(some 66), (.mv (.tmp 72)), none⟩])
    (.cond (.tmp 66)
    (.seq (.draw (.take ⟨(some 73), (.mv (.tmp 1)), none⟩ (.take ⟨(some 74), (.mv (.tmp 0)), none⟩ (.take ⟨(some 75), (.nilck (.tmp 74)), none⟩ (.take ⟨(some 76), (.fad 3 (.tmp 75)), none⟩ (.take ⟨(some 77), (.ld1 (.tmp 76)), none⟩ (.take ⟨(some 78), (.mv (.tmp 0)), none⟩ (.take ⟨(some 79), (.nilck (.tmp 78)), none⟩ (.take ⟨(some 80), (.fad 0 (.tmp 79)), none⟩ (.take ⟨(some 81), (.ldn 3 (.tmp 80)), none⟩ (.take ⟨(some 82), (.mv (.tmp 0)), none⟩ (.take ⟨(some 83), (.nilck (.tmp 82)), none⟩ (.take ⟨(some 84), (.fad 5 (.tmp 83)), none⟩ (.take ⟨(some 85), (.fad 1 (.tmp 84)), none⟩ (.take ⟨(some 86), (.ld1 (.tmp 85)), none⟩ (.take ⟨(some 87), (.mv (.tmp 0)), none⟩ (.take ⟨(some 88), (.nilck (.tmp 87)), none⟩ (.take ⟨(some 89), (.fad 5 (.tmp 88)), none⟩ (.take ⟨(some 90), (.fad 2 (.tmp 89)), none⟩ (.take ⟨(some 91), (.ld1 (.tmp 90)), none⟩ (.take ⟨(some 93), (.mv (.tmp 0)), none⟩ (.take ⟨(some 94), (.nilck (.tmp 93)), none⟩ (.take ⟨(some 95), (.fad 5 (.tmp 94)), none⟩ (.take ⟨(some 96), (.fad 3 (.tmp 95)), none⟩ (.take ⟨(some 97), (.ld1 (.tmp 96)), none⟩ (.alt false ⟨(some 92), (.pcall 30 [(.tmp 81), (.tmp 86), (.tmp 91)]), none⟩ (.alt false ⟨(some 98), (.pcall 126 [(.tmp 97)]), none⟩ (.alt true ⟨(some 99), (.call 63 [(.tmp 73), (.tmp 77), (.tmp 92), (.tmp 98)]), none⟩ .done .stop) .stop) .stop))))))))))))))))))))))))))
    (.reg [⟨(some 100), (.mv (.tmp 0)), none⟩, ⟨(some 101), (.nilck (.tmp 100)), none⟩, ⟨(some 102), (.fad 10 (.tmp 101)), none⟩, ⟨none, (.st1 (.tmp 102) (.const (.bool true))), none⟩]))
    (.seq (.reg [⟨(some 4), (.mv (.tmp 0)), none⟩, ⟨(some 5), (.nilck (.tmp 4)), none⟩, ⟨(some 6), (.fad 4 (.tmp 5)), none⟩, ⟨(some 7), (.ld1 (.tmp 6)), none⟩, ⟨(some 8), (.ar .add (.tmp 7) (.const (.int .i64 1))), none⟩, ⟨(some 9), (.nilck (.tmp 4)), none⟩, ⟨(some 10), (.fad 4 (.tmp 9)), none⟩, ⟨none, (.st1 (.tmp 10) (.tmp 8)), none⟩])
    (.seq (.seq
    (.reg [⟨(some 11), (.mv (.tmp 0)), none⟩, ⟨(some 12), (.nilck (.tmp 11)), none⟩, ⟨(some 13), (.fad 4 (.tmp 12)), none⟩, ⟨(some 14), (.ld1 (.tmp 13)), none⟩, ⟨(some 15), (.mv (.tmp 0)), none⟩, ⟨(some 16), (.nilck (.tmp 15)), none⟩, ⟨(some 17), (.fad 5 (.tmp 16)), none⟩, ⟨(some 18), (.fad 4 (.tmp 17)), none⟩, ⟨(some 19), (.ld1 (.tmp 18)), none⟩, ⟨(some 20), (.cmp .lss (.tmp 14) (.tmp 19)), none⟩])
    (.cond (.tmp 20)
    (.seq (.draw (.take ⟨(some 21), (.mv (.tmp 1)), none⟩ (.take ⟨(some 22), (.mv (.tmp 0)), none⟩ (.take ⟨(some 23), (.nilck (.tmp 22)), none⟩ (.take ⟨(some 24), (.fad 3 (.tmp 23)), none⟩ (.take ⟨(some 25), (.ld1 (.tmp 24)), none⟩ (.take ⟨(some 26), (.mv (.tmp 0)), none⟩ (.take ⟨(some 27), (.nilck (.tmp 26)), none⟩ (.take ⟨(some 28), (.fad 0 (.tmp 27)), none⟩ (.take ⟨(some 29), (.ldn 3 (.tmp 28)), none⟩ (.take ⟨(some 30), (.mv (.tmp 0)), none⟩ (.take ⟨(some 31), (.nilck (.tmp 30)), none⟩ (.take ⟨(some 32), (.fad 5 (.tmp 31)), none⟩ (.take ⟨(some 33), (.fad 1 (.tmp 32)), none⟩ (.take ⟨(some 34), (.ld1 (.tmp 33)), none⟩ (.take ⟨(some 35), (.mv (.tmp 0)), none⟩ (.take ⟨(some 36), (.nilck (.tmp 35)), none⟩ (.take ⟨(some 37), (.fad 4 (.tmp 36)), none⟩ (.take ⟨(some 38), (.ld1 (.tmp 37)), none⟩ (.take ⟨(some 39), (.ar .add (.tmp 34) (.tmp 38)), none⟩ (.alt false ⟨(some 40), (.pcall 27 [(.tmp 29), (.tmp 39)]), none⟩ (.alt true ⟨(some 41), (.call 63 [(.tmp 21), (.tmp 25), (.tmp 40), (.const (.int .u64 0))]), none⟩ .done .stop) .stop))))))))))))))))))))) .ret) .skip))
    (.seq (.draw (.take ⟨(some 42), (.mv (.tmp 1)), none⟩ (.take ⟨(some 43), (.mv (.tmp 0)), none⟩ (.take ⟨(some 44), (.nilck (.tmp 43)), none⟩ (.take ⟨(some 45), (.fad 3 (.tmp 44)), none⟩ (.take ⟨(some 46), (.ld1 (.tmp 45)), none⟩ (.take ⟨(some 47), (.mv (.tmp 0)), none⟩ (.take ⟨(some 48), (.nilck (.tmp 47)), none⟩ (.take ⟨(some 49), (.fad 0 (.tmp 48)), none⟩ (.take ⟨(some 50), (.ldn 3 (.tmp 49)), none⟩ (.take ⟨(some 51), (.mv (.tmp 0)), none⟩ (.take ⟨(some 52), (.nilck (.tmp 51)), none⟩ (.take ⟨(some 53), (.fad 5 (.tmp 52)), none⟩ (.take ⟨(some 54), (.fad 1 (.tmp 53)), none⟩ (.take ⟨(some 55), (.ld1 (.tmp 54)), none⟩ (.alt false ⟨(some 56), (.pcall 27 [(.tmp 50), (.tmp 55)]), none⟩ (.alt true ⟨(some 57), (.call 63 [(.tmp 42), (.tmp 46), (.tmp 56), (.const (.int .u64 0))]), none⟩ .done .stop) .stop))))))))))))))))
    (.reg [⟨(some 58), (.mv (.tmp 0)), none⟩, ⟨(some 59), (.nilck (.tmp 58)), none⟩, ⟨(some 60), (.fad 10 (.tmp 59)), none⟩, ⟨none, (.st1 (.tmp 60) (.const (.bool true))), none⟩])))))))))⟩ := by kernel_rfl

/-- allotment/strip.New -/
theorem tr116 : trF Try.prog pures Try.f116 = some
  ⟨33, [(.t 8)],
    (.seq (.reg [⟨(some 4), (.box 48 (.tmp 0)), none⟩, ⟨(some 8), (.mv (.const (.pointer none))), none⟩])
    (.seq (.reg [⟨(some 10), (.ldn 3 (.tmp 4)), none⟩, ⟨(some 11), (.mv (.tmp 1)), none⟩, ⟨(some 12), (.pcall 69 [(.tmp 10), (.tmp 11)]), none⟩, ⟨(some 13), (.cmp .geq (.tmp 12) (.const (.int .i64 0))), none⟩, ⟨(some 14), (.mv (.tmp 13)), none⟩, ⟨(some 15), (.ldn 3 (.tmp 4)), (some (14, true))⟩, ⟨(some 16), (.mv (.tmp 2)), (some (14, true))⟩, ⟨(some 17), (.pcall 71 [(.tmp 15), (.tmp 16)]), (some (14, true))⟩, ⟨(some 18), (.cmp .geq (.tmp 17) (.const (.int .i64 0))), (some (14, true))⟩, ⟨(some 19), (.pick (.tmp 14) (.tmp 18) (.const (.bool false))), none⟩, ⟨(some 20), (.mv (.tmp 19)), none⟩, ⟨(some 21), (.mv (.tmp 3)), (some (20, true))⟩, ⟨(some 22), (.pcall 118 [(.tmp 21)]), (some (20, true))⟩, ⟨(some 23), (.cmp .gtr (.tmp 22) (.const (.int .i64 0))), (some (20, true))⟩, ⟨(some 24), (.pick (.tmp 20) (.tmp 23) (.const (.bool false))), none⟩, ⟨(some 9), (.mv (.tmp 24)), none⟩])
    (.seq (.reg [⟨(some 25), (.ldn 3 (.tmp 4)), none⟩, ⟨(some 26), (.mv (.tmp 1)), none⟩, ⟨(some 27), (.mv (.tmp 2)), none⟩, ⟨(some 28), (.mv (.tmp 3)), none⟩, ⟨(some 29), (.mv (.tmp 9)), none⟩, ⟨(some 30), (.nt (.tmp 29)), none⟩, ⟨(some 31), (.bld #[(.int .i64 0), (.int .i64 0), (.int .i64 0), (.int .i64 0), (.int .i64 0), (.int .i64 0), (.int .i64 0), (.bool false), (.bool false), (.bool false)] [(0, (3, (.tmp 25))), (3, (1, (.tmp 26))), (4, (1, (.tmp 27))), (5, (1, (.tmp 28))), (9, (1, (.tmp 30)))]), none⟩, ⟨(some 32), (.box 146 (.tmp 31)), none⟩, ⟨(some 8), (.mv (.tmp 32)), none⟩]) .ret)))⟩ := by kernel_rfl

/-- allotment/mag.NewPutter -/
theorem tr120 : trF Try.prog pures Try.f120 = some
  ⟨47, [(.t 10)],
    (.seq (.reg [⟨(some 5), (.box 48 (.tmp 0)), none⟩, ⟨(some 10), (.mv (.const (.pointer none))), none⟩])
    (.seq (.reg [⟨(some 12), (.ldn 3 (.tmp 5)), none⟩, ⟨(some 13), (.mv (.tmp 1)), none⟩, ⟨(some 14), (.mv (.tmp 4)), none⟩, ⟨(some 15), (.call 134 [(.tmp 12), (.tmp 13), (.tmp 14)]), none⟩, ⟨(some 16), (.mv (.tmp 15)), none⟩, ⟨(some 17), (.ldn 3 (.tmp 5)), (some (16, true))⟩, ⟨(some 18), (.mv (.tmp 2)), (some (16, true))⟩, ⟨(some 19), (.pcall 71 [(.tmp 17), (.tmp 18)]), (some (16, true))⟩, ⟨(some 20), (.cmp .geq (.tmp 19) (.const (.int .i64 0))), (some (16, true))⟩, ⟨(some 21), (.pick (.tmp 16) (.tmp 20) (.const (.bool false))), none⟩, ⟨(some 22), (.mv (.tmp 21)), none⟩, ⟨(some 23), (.mv (.tmp 3)), (some (22, true))⟩, ⟨(some 24), (.cmp .geq (.tmp 23) (.const (.int .i64 0))), (some (22, true))⟩, ⟨(some 25), (.pick (.tmp 22) (.tmp 24) (.const (.bool false))), none⟩, ⟨(some 26), (.mv (.tmp 25)), none⟩, ⟨(some 27), (.mv (.tmp 3)), (some (26, true))⟩, ⟨(some 28), (.mv (.tmp 4)), (some (26, true))⟩, ⟨(some 29), (.pcall 118 [(.tmp 28)]), (some (26, true))⟩, ⟨(some 30), (.cmp .lss (.tmp 27) (.tmp 29)), (some (26, true))⟩, ⟨(some 31), (.pick (.tmp 26) (.tmp 30) (.const (.bool false))), none⟩, ⟨(some 11), (.mv (.tmp 31)), none⟩])
    (.seq (.reg [⟨(some 32), (.ldn 3 (.tmp 5)), none⟩, ⟨(some 33), (.mv (.tmp 1)), none⟩, ⟨(some 34), (.mv (.tmp 2)), none⟩, ⟨(some 35), (.mv (.tmp 3)), none⟩, ⟨(some 36), (.mv (.tmp 4)), none⟩, ⟨(some 37), (.bld #[(.int .i64 0), (.int .i64 0), (.int .i64 0)] [(0, (1, (.tmp 34))), (1, (1, (.tmp 35))), (2, (1, (.tmp 36)))]), none⟩, ⟨(some 38), (.mv (.tmp 11)), none⟩, ⟨(some 39), (.nt (.tmp 38)), none⟩, ⟨(some 40), (.mv (.tmp 39)), none⟩, ⟨(some 41), (.fad 2 (.tmp 5)), (some (40, false))⟩, ⟨(some 42), (.ld1 (.tmp 41)), (some (40, false))⟩, ⟨(some 43), (.cmp .eql (.tmp 42) (.const (.int .i64 0))), (some (40, false))⟩, ⟨(some 44), (.pick (.tmp 40) (.const (.bool true)) (.tmp 43)), none⟩, ⟨(some 45), (.bld #[(.int .i64 0), (.int .i64 0), (.int .i64 0), (.int .i64 0), (.int .i64 0), (.int .i64 0), (.int .i64 0), (.int .i64 0), (.bool false), (.bool false), (.bool false)] [(0, (3, (.tmp 32))), (3, (1, (.tmp 33))), (5, (3, (.tmp 37))), (10, (1, (.tmp 44)))]), none⟩, ⟨(some 46), (.box 150 (.tmp 45)), none⟩, ⟨(some 10), (.mv (.tmp 46)), none⟩]) .ret)))⟩ := by kernel_rfl

/-- (*allotment/mag.Putter).Put -/
theorem tr123 : trF Try.prog pures Try.f123 = some
  ⟨11, [(.t 2)],
    (.seq (.reg [⟨(some 2), (.mv (.const (.bool false))), none⟩])
    (.seq (.reg [⟨(some 3), (.mv (.tmp 0)), none⟩, ⟨(some 4), (.pnil true (.tmp 3)), none⟩, ⟨(some 5), (.mv (.tmp 4)), none⟩, ⟨(some 6), (.mv (.tmp 0)), (some (5, true))⟩, ⟨(some 7), (.nilck (.tmp 6)), (some (5, true))⟩, ⟨(some 8), (.fad 9 (.tmp 7)), (some (5, true))⟩, ⟨(some 9), (.ld1 (.tmp 8)), (some (5, true))⟩, ⟨(some 10), (.pick (.tmp 5) (.tmp 9) (.const (.bool false))), none⟩, ⟨(some 2), (.mv (.tmp 10)), none⟩]) .ret))⟩ := by kernel_rfl

/-- (*allotment/mag.Putter).Done -/
theorem tr124 : trF Try.prog pures Try.f124 = some
  ⟨11, [(.t 2)],
    (.seq (.reg [⟨(some 2), (.mv (.const (.bool false))), none⟩])
    (.seq (.reg [⟨(some 3), (.mv (.tmp 0)), none⟩, ⟨(some 4), (.pnil true (.tmp 3)), none⟩, ⟨(some 5), (.mv (.tmp 4)), none⟩, ⟨(some 6), (.mv (.tmp 0)), (some (5, true))⟩, ⟨(some 7), (.nilck (.tmp 6)), (some (5, true))⟩, ⟨(some 8), (.fad 10 (.tmp 7)), (some (5, true))⟩, ⟨(some 9), (.ld1 (.tmp 8)), (some (5, true))⟩, ⟨(some 10), (.pick (.tmp 5) (.tmp 9) (.const (.bool false))), none⟩, ⟨(some 2), (.mv (.tmp 10)), none⟩]) .ret))⟩ := by kernel_rfl

/-- allotment/allotmentref8.open -/
theorem tr126 : trF Try.prog pures Try.f126 = some
  ⟨6, [(.t 2)],
    (.seq (.reg [⟨(some 2), (.mv (.const (.int .u64 0))), none⟩])
    (.seq (.reg [⟨(some 3), (.mv (.tmp 0)), none⟩, ⟨(some 4), (.bld #[(.int .i64 0), (.int .i64 0)] [(0, (1, (.const (.int .i64 1)))), (1, (1, (.tmp 3)))]), none⟩, ⟨(some 5), (.pcall 29 [(.tmp 4)]), none⟩, ⟨(some 2), (.mv (.tmp 5)), none⟩]) .ret))⟩ := by kernel_rfl

/-- allotment/allotmentref8.way -/
theorem tr127 : trF Try.prog pures Try.f127 = some
  ⟨6, [(.t 2)],
    (.seq (.reg [⟨(some 2), (.mv (.const (.int .u64 0))), none⟩])
    (.seq (.reg [⟨(some 3), (.mv (.tmp 0)), none⟩, ⟨(some 4), (.bld #[(.int .i64 0), (.int .i64 0)] [(0, (1, (.const (.int .i64 2)))), (1, (1, (.tmp 3)))]), none⟩, ⟨(some 5), (.pcall 29 [(.tmp 4)]), none⟩, ⟨(some 2), (.mv (.tmp 5)), none⟩]) .ret))⟩ := by kernel_rfl

/-- allotment/allotmentref8.taken -/
theorem tr128 : trF Try.prog pures Try.f128 = some
  ⟨6, [(.t 2)],
    (.seq (.reg [⟨(some 2), (.mv (.const (.int .u64 0))), none⟩])
    (.seq (.reg [⟨(some 3), (.mv (.tmp 0)), none⟩, ⟨(some 4), (.bld #[(.int .i64 0), (.int .i64 0)] [(0, (1, (.const (.int .i64 3)))), (1, (1, (.tmp 3)))]), none⟩, ⟨(some 5), (.pcall 29 [(.tmp 4)]), none⟩, ⟨(some 2), (.mv (.tmp 5)), none⟩]) .ret))⟩ := by kernel_rfl

/-- allotment/allotmentref8.NewPutter -/
theorem tr129 : trF Try.prog pures Try.f129 = some
  ⟨46, [(.t 10)],
    (.seq (.reg [⟨(some 5), (.box 48 (.tmp 0)), none⟩, ⟨(some 10), (.mv (.const (.pointer none))), none⟩])
    (.seq (.reg [⟨(some 12), (.ldn 3 (.tmp 5)), none⟩, ⟨(some 13), (.mv (.tmp 1)), none⟩, ⟨(some 14), (.pcall 96 [(.tmp 12), (.tmp 13)]), none⟩, ⟨(some 15), (.mv (.tmp 14)), none⟩, ⟨(some 16), (.ldn 3 (.tmp 5)), (some (15, true))⟩, ⟨(some 17), (.mv (.tmp 2)), (some (15, true))⟩, ⟨(some 18), (.pcall 27 [(.tmp 16), (.tmp 17)]), (some (15, true))⟩, ⟨(some 19), (.cmp .geq (.tmp 18) (.const (.int .i64 0))), (some (15, true))⟩, ⟨(some 20), (.pick (.tmp 15) (.tmp 19) (.const (.bool false))), none⟩, ⟨(some 21), (.mv (.tmp 20)), none⟩, ⟨(some 22), (.mv (.tmp 3)), (some (21, true))⟩, ⟨(some 23), (.cmp .geq (.tmp 22) (.const (.int .i64 0))), (some (21, true))⟩, ⟨(some 24), (.pick (.tmp 21) (.tmp 23) (.const (.bool false))), none⟩, ⟨(some 25), (.mv (.tmp 24)), none⟩, ⟨(some 26), (.mv (.tmp 3)), (some (25, true))⟩, ⟨(some 27), (.mv (.tmp 4)), (some (25, true))⟩, ⟨(some 28), (.pcall 28 [(.tmp 27)]), (some (25, true))⟩, ⟨(some 29), (.cmp .lss (.tmp 26) (.tmp 28)), (some (25, true))⟩, ⟨(some 30), (.pick (.tmp 25) (.tmp 29) (.const (.bool false))), none⟩, ⟨(some 31), (.mv (.tmp 30)), none⟩, ⟨(some 32), (.fad 2 (.tmp 5)), (some (31, true))⟩, ⟨(some 33), (.ld1 (.tmp 32)), (some (31, true))⟩, ⟨(some 34), (.cmp .gtr (.tmp 33) (.const (.int .i64 0))), (some (31, true))⟩, ⟨(some 35), (.pick (.tmp 31) (.tmp 34) (.const (.bool false))), none⟩, ⟨(some 11), (.mv (.tmp 35)), none⟩])
    (.seq (.reg [⟨(some 36), (.ldn 3 (.tmp 5)), none⟩, ⟨(some 37), (.mv (.tmp 1)), none⟩, ⟨(some 38), (.mv (.tmp 2)), none⟩, ⟨(some 39), (.mv (.tmp 3)), none⟩, ⟨(some 40), (.mv (.tmp 4)), none⟩, ⟨(some 41), (.bld #[(.int .i64 0), (.int .i64 0), (.int .i64 0)] [(0, (1, (.tmp 38))), (1, (1, (.tmp 39))), (2, (1, (.tmp 40)))]), none⟩, ⟨(some 42), (.mv (.tmp 11)), none⟩, ⟨(some 43), (.nt (.tmp 42)), none⟩, ⟨(some 44), (.bld #[(.int .i64 0), (.int .i64 0), (.int .i64 0), (.int .i64 0), (.int .i64 0), (.int .i64 0), (.int .i64 0), (.int .i64 0), (.bool false), (.bool false), (.bool false)] [(0, (3, (.tmp 36))), (3, (1, (.tmp 37))), (5, (3, (.tmp 41))), (9, (1, (.tmp 43)))]), none⟩, ⟨(some 45), (.box 135 (.tmp 44)), none⟩, ⟨(some 10), (.mv (.tmp 45)), none⟩]) .ret)))⟩ := by kernel_rfl

/-- allotment/allotmentref8.NewUndoer -/
theorem tr130 : trF Try.prog pures Try.f130 = some
  ⟨17, [(.t 6)],
    (.seq (.reg [⟨(some 3), (.box 48 (.tmp 0)), none⟩, ⟨(some 5), (.box 92 (.tmp 2)), none⟩, ⟨(some 6), (.mv (.const (.pointer none))), none⟩])
    (.seq (.draw (.take ⟨(some 7), (.ldn 3 (.tmp 3)), none⟩ (.take ⟨(some 8), (.mv (.tmp 1)), none⟩ (.take ⟨(some 9), (.ldn 5 (.tmp 5)), none⟩ (.take ⟨(some 10), (.ldn 3 (.tmp 3)), none⟩ (.take ⟨(some 11), (.mv (.tmp 1)), none⟩ (.take ⟨(some 12), (.ldn 5 (.tmp 5)), none⟩ (.alt false ⟨(some 13), (.pcall 135 [(.tmp 10), (.tmp 11), (.tmp 12)]), none⟩ (.take ⟨(some 14), (.nt (.tmp 13)), none⟩ (.take ⟨(some 15), (.bld #[(.int .i64 0), (.int .i64 0), (.int .i64 0), (.int .i64 0), (.int .i64 0), (.bool false), (.int .i64 0), (.int .i64 0), (.int .i64 0), (.int .i64 0), (.bool false)] [(0, (3, (.tmp 7))), (3, (1, (.tmp 8))), (5, (5, (.tmp 9))), (10, (1, (.tmp 14)))]), none⟩ (.alt false ⟨(some 16), (.box 137 (.tmp 15)), none⟩ (.take ⟨(some 6), (.mv (.tmp 16)), none⟩ .done) .stop))) .stop)))))))) .ret))⟩ := by kernel_rfl

/-- allotment/mag.good -/
theorem tr134 : trF Try.prog pures Try.f134 = some
  ⟨16, [(.t 6)],
    (.seq (.reg [⟨(some 3), (.box 48 (.tmp 0)), none⟩, ⟨(some 6), (.mv (.const (.bool false))), none⟩])
    (.seq (.reg [⟨(some 7), (.ldn 3 (.tmp 3)), none⟩, ⟨(some 8), (.mv (.tmp 1)), none⟩, ⟨(some 9), (.pcall 69 [(.tmp 7), (.tmp 8)]), none⟩, ⟨(some 10), (.cmp .geq (.tmp 9) (.const (.int .i64 0))), none⟩, ⟨(some 11), (.mv (.tmp 10)), none⟩, ⟨(some 12), (.mv (.tmp 2)), (some (11, true))⟩, ⟨(some 13), (.pcall 118 [(.tmp 12)]), (some (11, true))⟩, ⟨(some 14), (.cmp .gtr (.tmp 13) (.const (.int .i64 0))), (some (11, true))⟩, ⟨(some 15), (.pick (.tmp 11) (.tmp 14) (.const (.bool false))), none⟩, ⟨(some 6), (.mv (.tmp 15)), none⟩]) .ret))⟩ := by kernel_rfl

/-- allotment/allotmentref8.fits -/
theorem tr135 : trF Try.prog pures Try.f135 = some
  ⟨49, [(.t 6)],
    (.seq (.reg [⟨(some 3), (.box 48 (.tmp 0)), none⟩, ⟨(some 5), (.box 92 (.tmp 2)), none⟩, ⟨(some 6), (.mv (.const (.bool false))), none⟩])
    (.seq (.seq
    (.reg [⟨(some 7), (.ldn 3 (.tmp 3)), none⟩, ⟨(some 8), (.mv (.tmp 1)), none⟩, ⟨(some 9), (.pcall 96 [(.tmp 7), (.tmp 8)]), none⟩, ⟨(some 10), (.nt (.tmp 9)), none⟩, ⟨(some 11), (.mv (.tmp 10)), none⟩, ⟨(some 12), (.ldn 3 (.tmp 3)), (some (11, false))⟩, ⟨(some 13), (.fad 1 (.tmp 5)), (some (11, false))⟩, ⟨(some 14), (.ld1 (.tmp 13)), (some (11, false))⟩, ⟨(some 15), (.pcall 27 [(.tmp 12), (.tmp 14)]), (some (11, false))⟩, ⟨(some 16), (.cmp .lss (.tmp 15) (.const (.int .i64 0))), (some (11, false))⟩, ⟨(some 17), (.pick (.tmp 11) (.const (.bool true)) (.tmp 16)), none⟩])
    (.cond (.tmp 17)
    (.seq (.reg [⟨(some 6), (.mv (.const (.bool false))), none⟩]) .ret) .skip))
    (.seq (.seq
    (.reg [⟨(some 18), (.fad 0 (.tmp 5)), none⟩, ⟨(some 19), (.ld1 (.tmp 18)), none⟩])
    (.cond (.tmp 19)
    (.seq (.reg [⟨(some 20), (.fad 4 (.tmp 5)), none⟩, ⟨(some 21), (.ld1 (.tmp 20)), none⟩, ⟨(some 22), (.cmp .geq (.tmp 21) (.const (.int .i64 1))), none⟩, ⟨(some 23), (.mv (.tmp 22)), none⟩, ⟨(some 24), (.fad 4 (.tmp 5)), (some (23, true))⟩, ⟨(some 25), (.ld1 (.tmp 24)), (some (23, true))⟩, ⟨(some 26), (.cmp .leq (.tmp 25) (.const (.int .i64 8))), (some (23, true))⟩, ⟨(some 27), (.pick (.tmp 23) (.tmp 26) (.const (.bool false))), none⟩, ⟨(some 28), (.mv (.tmp 27)), none⟩, ⟨(some 29), (.fad 4 (.tmp 5)), (some (28, true))⟩, ⟨(some 30), (.ld1 (.tmp 29)), (some (28, true))⟩, ⟨(some 31), (.fad 0 (.tmp 3)), (some (28, true))⟩, ⟨(some 32), (.ld1 (.tmp 31)), (some (28, true))⟩, ⟨(some 33), (.fad 1 (.tmp 5)), (some (28, true))⟩, ⟨(some 34), (.ld1 (.tmp 33)), (some (28, true))⟩, ⟨(some 35), (.ar .sub (.tmp 32) (.tmp 34)), (some (28, true))⟩, ⟨(some 36), (.cmp .leq (.tmp 30) (.tmp 35)), (some (28, true))⟩, ⟨(some 37), (.pick (.tmp 28) (.tmp 36) (.const (.bool false))), none⟩, ⟨(some 6), (.mv (.tmp 37)), none⟩]) .ret) .skip))
    (.seq (.reg [⟨(some 38), (.fad 2 (.tmp 5)), none⟩, ⟨(some 39), (.ld1 (.tmp 38)), none⟩, ⟨(some 40), (.cmp .geq (.tmp 39) (.const (.int .i64 0))), none⟩, ⟨(some 41), (.mv (.tmp 40)), none⟩, ⟨(some 42), (.fad 2 (.tmp 5)), (some (41, true))⟩, ⟨(some 43), (.ld1 (.tmp 42)), (some (41, true))⟩, ⟨(some 44), (.fad 3 (.tmp 5)), (some (41, true))⟩, ⟨(some 45), (.ld1 (.tmp 44)), (some (41, true))⟩, ⟨(some 46), (.pcall 28 [(.tmp 45)]), (some (41, true))⟩, ⟨(some 47), (.cmp .lss (.tmp 43) (.tmp 46)), (some (41, true))⟩, ⟨(some 48), (.pick (.tmp 41) (.tmp 47) (.const (.bool false))), none⟩, ⟨(some 6), (.mv (.tmp 48)), none⟩]) .ret))))⟩ := by kernel_rfl

end Go.Proofs.Ytgpojkafebmpgaa
