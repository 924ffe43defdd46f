/-
  The compact code of functions of this seat, as translated from the model: each translation holds by reckoning. Conditions: none.
-/
import Derived.Test.YtbehnodllajnjaaCode
set_option maxRecDepth 100000
namespace Go.Proofs.Ytbehnodllajnjaa
open Go Go.Ev

/-- allotment/run.New -/
theorem tr23 : trF Try.prog pures Try.f23 = some
  ⟨33, [(.t 6)],
    (.seq (.reg [⟨(some 3), (.box 25 (.tmp 0)), none⟩, ⟨(some 6), (.mv (.const (.pointer none))), none⟩])
    (.seq (.reg [⟨(some 8), (.ldn 3 (.tmp 3)), none⟩, ⟨(some 9), (.mv (.tmp 1)), none⟩, ⟨(some 10), (.pcall 68 [(.tmp 8), (.tmp 9)]), none⟩, ⟨(some 11), (.cmp .geq (.tmp 10) (.const (.int .i64 0))), none⟩, ⟨(some 12), (.mv (.tmp 11)), none⟩, ⟨(some 13), (.mv (.tmp 2)), (some (12, true))⟩, ⟨(some 14), (.cmp .geq (.tmp 13) (.const (.int .i64 1))), (some (12, true))⟩, ⟨(some 15), (.pick (.tmp 12) (.tmp 14) (.const (.bool false))), none⟩, ⟨(some 16), (.mv (.tmp 15)), none⟩, ⟨(some 17), (.mv (.tmp 2)), (some (16, true))⟩, ⟨(some 18), (.cmp .leq (.tmp 17) (.const (.int .i64 8))), (some (16, true))⟩, ⟨(some 19), (.pick (.tmp 16) (.tmp 18) (.const (.bool false))), none⟩, ⟨(some 20), (.mv (.tmp 19)), none⟩, ⟨(some 21), (.mv (.tmp 2)), (some (20, true))⟩, ⟨(some 22), (.fad 0 (.tmp 3)), (some (20, true))⟩, ⟨(some 23), (.ld1 (.tmp 22)), (some (20, true))⟩, ⟨(some 24), (.cmp .leq (.tmp 21) (.tmp 23)), (some (20, true))⟩, ⟨(some 25), (.pick (.tmp 20) (.tmp 24) (.const (.bool false))), none⟩, ⟨(some 7), (.mv (.tmp 25)), none⟩])
    (.seq (.reg [⟨(some 26), (.ldn 3 (.tmp 3)), none⟩, ⟨(some 27), (.mv (.tmp 1)), none⟩, ⟨(some 28), (.mv (.tmp 2)), none⟩, ⟨(some 29), (.mv (.tmp 7)), none⟩, ⟨(some 30), (.nt (.tmp 29)), none⟩, ⟨(some 31), (.bld #[(.int .i64 0), (.int .i64 0), (.int .i64 0), (.int .i64 0), (.int .i64 0), (.int .i64 0), (.int .i64 0), (.int .i64 0), (.int .i64 0), (.pointer none), (.bool false), (.bool false)] [(0, (3, (.tmp 26))), (3, (1, (.tmp 27))), (4, (1, (.tmp 28))), (11, (1, (.tmp 30)))]), none⟩, ⟨(some 32), (.box 113 (.tmp 31)), none⟩, ⟨(some 6), (.mv (.tmp 32)), none⟩]) .ret)))⟩ := by kernel_rfl

/-- (*allotment/run.Runner).Step -/
theorem tr24 : trF Try.prog pures Try.f24 = some
  ⟨145, [],
    (.seq (.seq
    (.reg [⟨(some 4), (.mv (.tmp 0)), none⟩, ⟨(some 5), (.pnil false (.tmp 4)), none⟩, ⟨(some 6), (.mv (.tmp 5)), none⟩, ⟨(some 7), (.mv (.tmp 0)), (some (6, false))⟩, ⟨(some 8), (.nilck (.tmp 7)), (some (6, false))⟩, ⟨(some 9), (.fad 11 (.tmp 8)), (some (6, false))⟩, ⟨(some 10), (.ld1 (.tmp 9)), (some (6, false))⟩, ⟨(some 11), (.pick (.tmp 6) (.const (.bool true)) (.tmp 10)), none⟩])
    (.cond (.tmp 11) .ret .skip))
    (.seq (.reg [⟨(some 12), (.mv (.tmp 0)), none⟩, ⟨(some 13), (.nilck (.tmp 12)), none⟩, ⟨(some 14), (.fad 8 (.tmp 13)), none⟩, ⟨(some 15), (.ld1 (.tmp 14)), none⟩])
    (.block 0
    (.seq (.reg [⟨(some 17), (.cmp .eql (.tmp 15) (.const (.int .i64 0))), none⟩, ⟨(some 16), (.mv (.tmp 17)), none⟩])
    (.cond (.tmp 16)
    (.reg [⟨(some 18), (.mv (.tmp 0)), none⟩, ⟨(some 19), (.mv (.tmp 1)), none⟩, ⟨(some 20), (.call 69 [(.tmp 18), (.tmp 19)]), none⟩])
    (.seq (.reg [⟨(some 22), (.cmp .eql (.tmp 15) (.const (.int .i64 1))), none⟩, ⟨(some 21), (.mv (.tmp 22)), none⟩])
    (.cond (.tmp 21)
    (.seq (.draw (.take ⟨(some 23), (.mv (.tmp 1)), none⟩ (.take ⟨(some 24), (.mv (.tmp 0)), none⟩ (.take ⟨(some 25), (.nilck (.tmp 24)), none⟩ (.take ⟨(some 26), (.fad 3 (.tmp 25)), none⟩ (.take ⟨(some 27), (.ld1 (.tmp 26)), none⟩ (.take ⟨(some 28), (.mv (.tmp 0)), none⟩ (.take ⟨(some 29), (.nilck (.tmp 28)), none⟩ (.take ⟨(some 30), (.fad 0 (.tmp 29)), none⟩ (.take ⟨(some 31), (.ldn 3 (.tmp 30)), none⟩ (.take ⟨(some 32), (.mv (.tmp 0)), none⟩ (.take ⟨(some 33), (.nilck (.tmp 32)), none⟩ (.take ⟨(some 34), (.fad 6 (.tmp 33)), none⟩ (.take ⟨(some 35), (.ld1 (.tmp 34)), none⟩ (.take ⟨(some 37), (.mv (.tmp 0)), none⟩ (.take ⟨(some 38), (.nilck (.tmp 37)), none⟩ (.take ⟨(some 39), (.fad 3 (.tmp 38)), none⟩ (.take ⟨(some 40), (.ld1 (.tmp 39)), none⟩ (.take ⟨(some 41), (.bld #[(.int .i64 0), (.int .i64 0), (.int .i64 0)] [(0, (1, (.const (.int .i64 1)))), (1, (1, (.tmp 40)))]), none⟩ (.alt false ⟨(some 36), (.pcall 71 [(.tmp 31), (.tmp 35)]), none⟩ (.alt false ⟨(some 42), (.pcall 72 [(.tmp 41)]), none⟩ (.alt true ⟨(some 43), (.call 70 [(.tmp 23), (.tmp 27), (.tmp 36), (.const (.int .u64 0)), (.tmp 42)]), none⟩ .done .stop) .stop) .stop))))))))))))))))))))
    (.cond (.tmp 43)
    (.reg [⟨(some 44), (.mv (.tmp 0)), none⟩, ⟨(some 45), (.call 73 [(.tmp 44)]), none⟩])
    (.reg [⟨(some 46), (.mv (.tmp 0)), none⟩, ⟨(some 47), (.call 74 [(.tmp 46)]), none⟩])))
    (.seq (.reg [⟨(some 49), (.cmp .eql (.tmp 15) (.const (.int .i64 2))), none⟩, ⟨(some 48), (.mv (.tmp 49)), none⟩])
    (.cond (.tmp 48)
    (.seq (.reg [⟨(some 50), (.mv (.tmp 0)), none⟩, ⟨(some 51), (.nilck (.tmp 50)), none⟩, ⟨(some 52), (.fad 9 (.tmp 51)), none⟩, ⟨(some 53), (.ld1 (.tmp 52)), none⟩, ⟨(some 54), (.mv (.tmp 1)), none⟩, ⟨(some 55), (.call 75 [(.tmp 53), (.tmp 54)]), none⟩])
    (.seq (.reg [⟨(some 56), (.mv (.tmp 0)), none⟩, ⟨(some 57), (.nilck (.tmp 56)), none⟩, ⟨(some 58), (.fad 9 (.tmp 57)), none⟩, ⟨(some 59), (.ld1 (.tmp 58)), none⟩, ⟨(some 60), (.call 76 [(.tmp 59)]), none⟩])
    (.cond (.tmp 60)
    (.reg [⟨(some 61), (.mv (.tmp 0)), none⟩, ⟨(some 62), (.mv (.tmp 0)), none⟩, ⟨(some 63), (.nilck (.tmp 61)), none⟩, ⟨(some 64), (.fad 8 (.tmp 63)), none⟩, ⟨none, (.st1 (.tmp 64) (.const (.int .i64 3))), none⟩, ⟨(some 65), (.nilck (.tmp 62)), none⟩, ⟨(some 66), (.fad 7 (.tmp 65)), none⟩, ⟨none, (.st1 (.tmp 66) (.const (.int .i64 0))), none⟩])
    (.seq (.reg [⟨(some 67), (.mv (.tmp 0)), none⟩, ⟨(some 68), (.nilck (.tmp 67)), none⟩, ⟨(some 69), (.fad 9 (.tmp 68)), none⟩, ⟨(some 70), (.ld1 (.tmp 69)), none⟩, ⟨(some 71), (.call 77 [(.tmp 70)]), none⟩])
    (.cond (.tmp 71)
    (.reg [⟨(some 72), (.mv (.tmp 0)), none⟩, ⟨(some 73), (.call 74 [(.tmp 72)]), none⟩]) .skip)))))
    (.seq (.reg [⟨(some 75), (.cmp .eql (.tmp 15) (.const (.int .i64 3))), none⟩, ⟨(some 74), (.mv (.tmp 75)), none⟩])
    (.cond (.tmp 74)
    (.seq (.draw (.take ⟨(some 76), (.mv (.tmp 1)), none⟩ (.take ⟨(some 77), (.mv (.tmp 0)), none⟩ (.take ⟨(some 78), (.nilck (.tmp 77)), none⟩ (.take ⟨(some 79), (.fad 3 (.tmp 78)), none⟩ (.take ⟨(some 80), (.ld1 (.tmp 79)), none⟩ (.take ⟨(some 81), (.mv (.tmp 0)), none⟩ (.take ⟨(some 82), (.nilck (.tmp 81)), none⟩ (.take ⟨(some 83), (.fad 0 (.tmp 82)), none⟩ (.take ⟨(some 84), (.ldn 3 (.tmp 83)), none⟩ (.take ⟨(some 85), (.mv (.tmp 0)), none⟩ (.take ⟨(some 86), (.nilck (.tmp 85)), none⟩ (.take ⟨(some 87), (.fad 6 (.tmp 86)), none⟩ (.take ⟨(some 88), (.ld1 (.tmp 87)), none⟩ (.take ⟨(some 89), (.mv (.tmp 0)), none⟩ (.take ⟨(some 90), (.nilck (.tmp 89)), none⟩ (.take ⟨(some 91), (.fad 7 (.tmp 90)), none⟩ (.take ⟨(some 92), (.ld1 (.tmp 91)), none⟩ (.alt false ⟨(some 93), (.pcall 79 [(.tmp 84), (.tmp 88), (.tmp 92)]), none⟩ (.alt true ⟨(some 94), (.call 78 [(.tmp 76), (.tmp 80), (.tmp 93), (.const (.int .u64 0))]), none⟩ .done .stop) .stop)))))))))))))))))))
    (.seq (.reg [⟨(some 95), (.mv (.tmp 0)), none⟩, ⟨(some 96), (.nilck (.tmp 95)), none⟩, ⟨(some 97), (.fad 7 (.tmp 96)), none⟩, ⟨(some 98), (.ld1 (.tmp 97)), none⟩, ⟨(some 99), (.ar .add (.tmp 98) (.const (.int .i64 1))), none⟩, ⟨(some 100), (.nilck (.tmp 95)), none⟩, ⟨(some 101), (.fad 7 (.tmp 100)), none⟩, ⟨none, (.st1 (.tmp 101) (.tmp 99)), none⟩])
    (.seq (.reg [⟨(some 102), (.mv (.tmp 0)), none⟩, ⟨(some 103), (.nilck (.tmp 102)), none⟩, ⟨(some 104), (.fad 7 (.tmp 103)), none⟩, ⟨(some 105), (.ld1 (.tmp 104)), none⟩, ⟨(some 106), (.cmp .eql (.tmp 105) (.const (.int .i64 16))), none⟩])
    (.cond (.tmp 106)
    (.reg [⟨(some 107), (.mv (.tmp 0)), none⟩, ⟨(some 108), (.call 73 [(.tmp 107)]), none⟩]) .skip))))
    (.seq (.reg [⟨(some 110), (.cmp .eql (.tmp 15) (.const (.int .i64 4))), none⟩, ⟨(some 109), (.mv (.tmp 110)), none⟩])
    (.cond (.tmp 109)
    (.seq (.reg [⟨(some 111), (.mv (.tmp 0)), none⟩, ⟨(some 112), (.mv (.tmp 1)), none⟩, ⟨(some 113), (.mv (.tmp 0)), none⟩, ⟨(some 114), (.nilck (.tmp 113)), none⟩, ⟨(some 115), (.fad 7 (.tmp 114)), none⟩, ⟨(some 116), (.ld1 (.tmp 115)), none⟩, ⟨(some 117), (.ar .sub (.tmp 116) (.const (.int .i64 1))), none⟩, ⟨(some 118), (.bld #[(.int .i64 0), (.int .i64 0), (.int .i64 0)] []), none⟩, ⟨(some 119), (.call 80 [(.tmp 111), (.tmp 112), (.tmp 117), (.tmp 118)]), none⟩])
    (.seq (.reg [⟨(some 120), (.mv (.tmp 0)), none⟩, ⟨(some 121), (.nilck (.tmp 120)), none⟩, ⟨(some 122), (.fad 7 (.tmp 121)), none⟩, ⟨(some 123), (.ld1 (.tmp 122)), none⟩, ⟨(some 124), (.ar .sub (.tmp 123) (.const (.int .i64 1))), none⟩, ⟨(some 125), (.nilck (.tmp 120)), none⟩, ⟨(some 126), (.fad 7 (.tmp 125)), none⟩, ⟨none, (.st1 (.tmp 126) (.tmp 124)), none⟩])
    (.reg [⟨(some 127), (.mv (.tmp 0)), none⟩, ⟨(some 128), (.call 81 [(.tmp 127)]), none⟩])))
    (.seq (.reg [⟨(some 130), (.cmp .eql (.tmp 15) (.const (.int .i64 5))), none⟩, ⟨(some 129), (.mv (.tmp 130)), none⟩])
    (.cond (.tmp 129)
    (.seq (.draw (.take ⟨(some 131), (.mv (.tmp 0)), none⟩ (.take ⟨(some 132), (.mv (.tmp 1)), none⟩ (.take ⟨(some 133), (.mv (.tmp 0)), none⟩ (.take ⟨(some 134), (.nilck (.tmp 133)), none⟩ (.take ⟨(some 135), (.fad 7 (.tmp 134)), none⟩ (.take ⟨(some 136), (.ld1 (.tmp 135)), none⟩ (.take ⟨(some 137), (.mv (.tmp 0)), none⟩ (.take ⟨(some 138), (.nilck (.tmp 137)), none⟩ (.take ⟨(some 139), (.fad 5 (.tmp 138)), none⟩ (.take ⟨(some 140), (.ld1 (.tmp 139)), none⟩ (.take ⟨(some 141), (.bld #[(.int .i64 0), (.int .i64 0), (.int .i64 0)] [(0, (1, (.const (.int .i64 4)))), (1, (1, (.tmp 140)))]), none⟩ (.alt true ⟨(some 142), (.call 80 [(.tmp 131), (.tmp 132), (.tmp 136), (.tmp 141)]), none⟩ .done .stop)))))))))))))
    (.reg [⟨(some 143), (.mv (.tmp 0)), none⟩, ⟨(some 144), (.call 82 [(.tmp 143)]), none⟩])) .skip)))))))))))))))⟩ := by kernel_rfl

/-- (*allotment/run.Runner).Found -/
theorem tr25 : trF Try.prog pures Try.f25 = some
  ⟨17, [(.t 2), (.t 3)],
    (.seq (.reg [⟨(some 2), (.mv (.const (.int .i64 0))), none⟩, ⟨(some 3), (.mv (.const (.bool false))), none⟩])
    (.seq (.seq
    (.reg [⟨(some 4), (.mv (.tmp 0)), none⟩, ⟨(some 5), (.pnil false (.tmp 4)), none⟩, ⟨(some 6), (.mv (.tmp 5)), none⟩, ⟨(some 7), (.mv (.tmp 0)), (some (6, false))⟩, ⟨(some 8), (.nilck (.tmp 7)), (some (6, false))⟩, ⟨(some 9), (.fad 10 (.tmp 8)), (some (6, false))⟩, ⟨(some 10), (.ld1 (.tmp 9)), (some (6, false))⟩, ⟨(some 11), (.nt (.tmp 10)), (some (6, false))⟩, ⟨(some 12), (.pick (.tmp 6) (.const (.bool true)) (.tmp 11)), none⟩])
    (.cond (.tmp 12)
    (.seq (.reg [⟨(some 2), (.mv (.const (.int .i64 0))), none⟩, ⟨(some 3), (.mv (.const (.bool false))), none⟩]) .ret) .skip))
    (.seq (.reg [⟨(some 13), (.mv (.tmp 0)), none⟩, ⟨(some 14), (.nilck (.tmp 13)), none⟩, ⟨(some 15), (.fad 5 (.tmp 14)), none⟩, ⟨(some 16), (.ld1 (.tmp 15)), none⟩, ⟨(some 2), (.mv (.tmp 16)), none⟩, ⟨(some 3), (.mv (.const (.bool true))), none⟩]) .ret)))⟩ := by kernel_rfl

/-- (*allotment/run.Runner).Done -/
theorem tr26 : trF Try.prog pures Try.f26 = some
  ⟨11, [(.t 2)],
    (.seq (.reg [⟨(some 2), (.mv (.const (.bool false))), none⟩])
    (.seq (.reg [⟨(some 3), (.mv (.tmp 0)), none⟩, ⟨(some 4), (.pnil true (.tmp 3)), none⟩, ⟨(some 5), (.mv (.tmp 4)), none⟩, ⟨(some 6), (.mv (.tmp 0)), (some (5, true))⟩, ⟨(some 7), (.nilck (.tmp 6)), (some (5, true))⟩, ⟨(some 8), (.fad 11 (.tmp 7)), (some (5, true))⟩, ⟨(some 9), (.ld1 (.tmp 8)), (some (5, true))⟩, ⟨(some 10), (.pick (.tmp 5) (.tmp 9) (.const (.bool false))), none⟩, ⟨(some 2), (.mv (.tmp 10)), none⟩]) .ret))⟩ := by kernel_rfl

/-- allotment/give.New -/
theorem tr30 : trF Try.prog pures Try.f30 = some
  ⟨31, [(.t 6)],
    (.seq (.reg [⟨(some 3), (.box 25 (.tmp 0)), none⟩, ⟨(some 6), (.mv (.const (.pointer none))), none⟩])
    (.seq (.reg [⟨(some 11), (.ldn 3 (.tmp 3)), none⟩, ⟨(some 12), (.mv (.tmp 2)), none⟩, ⟨(some 13), (.pcall 84 [(.tmp 11), (.tmp 12)]), none⟩, ⟨(some 10), (.mv (.tmp 13)), none⟩, ⟨(some 14), (.ext 0 (.tmp 10)), none⟩, ⟨(some 15), (.ext 1 (.tmp 10)), none⟩, ⟨(some 16), (.ext 2 (.tmp 10)), none⟩, ⟨(some 7), (.mv (.tmp 14)), none⟩, ⟨(some 8), (.mv (.tmp 15)), none⟩, ⟨(some 9), (.mv (.tmp 16)), none⟩])
    (.seq (.draw (.take ⟨(some 17), (.ldn 3 (.tmp 3)), none⟩ (.take ⟨(some 18), (.mv (.tmp 1)), none⟩ (.take ⟨(some 19), (.mv (.tmp 2)), none⟩ (.take ⟨(some 20), (.mv (.tmp 7)), none⟩ (.take ⟨(some 21), (.mv (.tmp 9)), none⟩ (.take ⟨(some 22), (.nt (.tmp 21)), none⟩ (.take ⟨(some 23), (.mv (.tmp 22)), none⟩ (.take ⟨(some 24), (.ldn 3 (.tmp 3)), (some (23, false))⟩ (.take ⟨(some 25), (.mv (.tmp 1)), (some (23, false))⟩ (.alt false ⟨(some 26), (.pcall 68 [(.tmp 24), (.tmp 25)]), (some (23, false))⟩ (.take ⟨(some 27), (.cmp .lss (.tmp 26) (.const (.int .i64 0))), (some (23, false))⟩ (.take ⟨(some 28), (.pick (.tmp 23) (.const (.bool true)) (.tmp 27)), none⟩ (.take ⟨(some 29), (.bld #[(.int .i64 0), (.int .i64 0), (.int .i64 0), (.int .i64 0), (.int .i64 0), (.int .i64 0), (.int .i64 0), (.int .u64 0), (.int .i64 0), (.int .i64 0), (.int .i64 0), (.int .i64 0), (.int .i64 0), (.pointer none), (.bool false), (.bool false)] [(0, (3, (.tmp 17))), (3, (1, (.tmp 18))), (4, (1, (.tmp 19))), (5, (1, (.tmp 20))), (15, (1, (.tmp 28)))]), none⟩ (.alt false ⟨(some 30), (.box 124 (.tmp 29)), none⟩ (.take ⟨(some 6), (.mv (.tmp 30)), none⟩ .done) .stop)))) .stop))))))))))) .ret)))⟩ := by kernel_rfl

/-- (*allotment/give.Freer).Step -/
theorem tr31 : trF Try.prog pures Try.f31 = some
  ⟨72, [],
    (.seq (.seq
    (.reg [⟨(some 4), (.mv (.tmp 0)), none⟩, ⟨(some 5), (.pnil false (.tmp 4)), none⟩, ⟨(some 6), (.mv (.tmp 5)), none⟩, ⟨(some 7), (.mv (.tmp 0)), (some (6, false))⟩, ⟨(some 8), (.nilck (.tmp 7)), (some (6, false))⟩, ⟨(some 9), (.fad 15 (.tmp 8)), (some (6, false))⟩, ⟨(some 10), (.ld1 (.tmp 9)), (some (6, false))⟩, ⟨(some 11), (.pick (.tmp 6) (.const (.bool true)) (.tmp 10)), none⟩])
    (.cond (.tmp 11) .ret .skip))
    (.seq (.reg [⟨(some 12), (.mv (.tmp 0)), none⟩, ⟨(some 13), (.nilck (.tmp 12)), none⟩, ⟨(some 14), (.fad 11 (.tmp 13)), none⟩, ⟨(some 15), (.ld1 (.tmp 14)), none⟩])
    (.block 0
    (.seq (.reg [⟨(some 17), (.cmp .eql (.tmp 15) (.const (.int .i64 0))), none⟩, ⟨(some 16), (.mv (.tmp 17)), none⟩])
    (.cond (.tmp 16)
    (.reg [⟨(some 18), (.mv (.tmp 0)), none⟩, ⟨(some 19), (.mv (.tmp 1)), none⟩, ⟨(some 20), (.call 85 [(.tmp 18), (.tmp 19)]), none⟩])
    (.seq (.reg [⟨(some 22), (.cmp .eql (.tmp 15) (.const (.int .i64 1))), none⟩, ⟨(some 21), (.mv (.tmp 22)), none⟩])
    (.cond (.tmp 21)
    (.reg [⟨(some 23), (.mv (.tmp 0)), none⟩, ⟨(some 24), (.mv (.tmp 1)), none⟩, ⟨(some 25), (.call 86 [(.tmp 23), (.tmp 24)]), none⟩])
    (.seq (.reg [⟨(some 27), (.cmp .eql (.tmp 15) (.const (.int .i64 2))), none⟩, ⟨(some 26), (.mv (.tmp 27)), none⟩])
    (.cond (.tmp 26)
    (.seq (.reg [⟨(some 28), (.mv (.tmp 0)), none⟩, ⟨(some 29), (.nilck (.tmp 28)), none⟩, ⟨(some 30), (.fad 13 (.tmp 29)), none⟩, ⟨(some 31), (.ld1 (.tmp 30)), none⟩, ⟨(some 32), (.mv (.tmp 1)), none⟩, ⟨(some 33), (.call 87 [(.tmp 31), (.tmp 32)]), none⟩])
    (.reg [⟨(some 34), (.mv (.tmp 0)), none⟩, ⟨(some 35), (.call 88 [(.tmp 34)]), none⟩]))
    (.seq (.reg [⟨(some 37), (.cmp .eql (.tmp 15) (.const (.int .i64 3))), none⟩, ⟨(some 36), (.mv (.tmp 37)), none⟩])
    (.cond (.tmp 36)
    (.seq (.draw (.take ⟨(some 38), (.mv (.tmp 1)), none⟩ (.take ⟨(some 39), (.mv (.tmp 0)), none⟩ (.take ⟨(some 40), (.nilck (.tmp 39)), none⟩ (.take ⟨(some 41), (.fad 3 (.tmp 40)), none⟩ (.take ⟨(some 42), (.ld1 (.tmp 41)), none⟩ (.take ⟨(some 43), (.mv (.tmp 0)), none⟩ (.take ⟨(some 44), (.nilck (.tmp 43)), none⟩ (.take ⟨(some 45), (.fad 0 (.tmp 44)), none⟩ (.take ⟨(some 46), (.ldn 3 (.tmp 45)), none⟩ (.take ⟨(some 47), (.mv (.tmp 0)), none⟩ (.take ⟨(some 48), (.nilck (.tmp 47)), none⟩ (.take ⟨(some 49), (.fad 5 (.tmp 48)), none⟩ (.take ⟨(some 50), (.ld1 (.tmp 49)), none⟩ (.take ⟨(some 51), (.mv (.tmp 0)), none⟩ (.take ⟨(some 52), (.nilck (.tmp 51)), none⟩ (.take ⟨(some 53), (.fad 6 (.tmp 52)), none⟩ (.take ⟨(some 54), (.ld1 (.tmp 53)), none⟩ (.take ⟨(some 56), (.mv (.tmp 0)), none⟩ (.take ⟨(some 57), (.nilck (.tmp 56)), none⟩ (.take ⟨(some 58), (.fad 8 (.tmp 57)), none⟩ (.take ⟨(some 59), (.fad 1 (.tmp 58)), none⟩ (.take ⟨(some 60), (.ld1 (.tmp 59)), none⟩ (.take ⟨(some 61), (.bld #[(.int .i64 0), (.int .i64 0)] [(0, (1, (.const (.int .i64 1)))), (1, (1, (.tmp 60)))]), none⟩ (.alt false ⟨(some 55), (.pcall 79 [(.tmp 46), (.tmp 50), (.tmp 54)]), none⟩ (.alt false ⟨(some 62), (.pcall 89 [(.tmp 61)]), none⟩ (.alt true ⟨(some 63), (.call 78 [(.tmp 38), (.tmp 42), (.tmp 55), (.tmp 62)]), none⟩ .done .stop) .stop) .stop)))))))))))))))))))))))))
    (.reg [⟨(some 64), (.mv (.tmp 0)), none⟩, ⟨(some 65), (.nilck (.tmp 64)), none⟩, ⟨(some 66), (.fad 15 (.tmp 65)), none⟩, ⟨none, (.st1 (.tmp 66) (.const (.bool true))), none⟩]))
    (.seq (.reg [⟨(some 68), (.cmp .eql (.tmp 15) (.const (.int .i64 4))), none⟩, ⟨(some 67), (.mv (.tmp 68)), none⟩])
    (.cond (.tmp 67)
    (.reg [⟨(some 69), (.mv (.tmp 0)), none⟩, ⟨(some 70), (.mv (.tmp 1)), none⟩, ⟨(some 71), (.call 90 [(.tmp 69), (.tmp 70)]), none⟩]) .skip)))))))))))))⟩ := by kernel_rfl

/-- (*allotment/give.Freer).Done -/
theorem tr32 : trF Try.prog pures Try.f32 = some
  ⟨11, [(.t 2)],
    (.seq (.reg [⟨(some 2), (.mv (.const (.bool false))), none⟩])
    (.seq (.reg [⟨(some 3), (.mv (.tmp 0)), none⟩, ⟨(some 4), (.pnil true (.tmp 3)), none⟩, ⟨(some 5), (.mv (.tmp 4)), none⟩, ⟨(some 6), (.mv (.tmp 0)), (some (5, true))⟩, ⟨(some 7), (.nilck (.tmp 6)), (some (5, true))⟩, ⟨(some 8), (.fad 15 (.tmp 7)), (some (5, true))⟩, ⟨(some 9), (.ld1 (.tmp 8)), (some (5, true))⟩, ⟨(some 10), (.pick (.tmp 5) (.tmp 9) (.const (.bool false))), none⟩, ⟨(some 2), (.mv (.tmp 10)), none⟩]) .ret))⟩ := by kernel_rfl

/-- (*allotment/give.Freer).Gave -/
theorem tr33 : trF Try.prog pures Try.f33 = some
  ⟨11, [(.t 2)],
    (.seq (.reg [⟨(some 2), (.mv (.const (.bool false))), none⟩])
    (.seq (.reg [⟨(some 3), (.mv (.tmp 0)), none⟩, ⟨(some 4), (.pnil true (.tmp 3)), none⟩, ⟨(some 5), (.mv (.tmp 4)), none⟩, ⟨(some 6), (.mv (.tmp 0)), (some (5, true))⟩, ⟨(some 7), (.nilck (.tmp 6)), (some (5, true))⟩, ⟨(some 8), (.fad 14 (.tmp 7)), (some (5, true))⟩, ⟨(some 9), (.ld1 (.tmp 8)), (some (5, true))⟩, ⟨(some 10), (.pick (.tmp 5) (.tmp 9) (.const (.bool false))), none⟩, ⟨(some 2), (.mv (.tmp 10)), none⟩]) .ret))⟩ := by kernel_rfl

/-- allotment/allotmentref20.Sound -/
theorem tr38 : trF Try.prog pures Try.f38 = some
  ⟨134, [(.t 4)],
    (.seq (.reg [⟨(some 2), (.box 25 (.tmp 0)), none⟩, ⟨(some 4), (.mv (.const (.bool false))), none⟩])
    (.seq (.seq
    (.reg [⟨(some 17), (.ldn 3 (.tmp 2)), none⟩, ⟨(some 18), (.mv (.tmp 1)), none⟩, ⟨(some 19), (.call 91 [(.tmp 17), (.tmp 18)]), none⟩, ⟨(some 20), (.nt (.tmp 19)), none⟩])
    (.cond (.tmp 20)
    (.seq (.reg [⟨(some 4), (.mv (.const (.bool false))), none⟩]) .ret) .skip))
    (.seq (.seq
    (.reg [⟨(some 5), (.mv (.const (.int .i64 0))), none⟩])
    (.block 0
    (.loop (.seq
    (.seq (.reg [⟨(some 21), (.mv (.tmp 5)), none⟩, ⟨(some 22), (.fad 0 (.tmp 2)), none⟩, ⟨(some 23), (.ld1 (.tmp 22)), none⟩, ⟨(some 24), (.cmp .lss (.tmp 21) (.tmp 23)), none⟩])
    (.cond (.tmp 24) .skip (.exit 0)))
    (.seq (.block 1
    (.seq (.reg [⟨(some 28), (.ldn 3 (.tmp 2)), none⟩, ⟨(some 29), (.mv (.tmp 1)), none⟩, ⟨(some 30), (.mv (.tmp 5)), none⟩, ⟨(some 31), (.call 92 [(.tmp 28), (.tmp 29), (.tmp 30)]), none⟩, ⟨(some 27), (.mv (.tmp 31)), none⟩, ⟨(some 32), (.ext 0 (.tmp 27)), none⟩, ⟨(some 33), (.ext 1 (.tmp 27)), none⟩, ⟨(some 6), (.alc 32 (.agg #[(.int .i64 0), (.int .i64 0), (.int .i64 0)])), none⟩, ⟨none, (.stn 3 (.tmp 6) (.tmp 32)), none⟩, ⟨(some 7), (.mv (.tmp 33)), none⟩])
    (.seq (.reg [⟨(some 34), (.mv (.tmp 7)), none⟩, ⟨(some 35), (.nt (.tmp 34)), none⟩, ⟨(some 36), (.mv (.tmp 35)), none⟩, ⟨(some 37), (.ldn 3 (.tmp 2)), (some (36, false))⟩, ⟨(some 38), (.mv (.tmp 1)), (some (36, false))⟩, ⟨(some 39), (.mv (.tmp 5)), (some (36, false))⟩, ⟨(some 40), (.ldn 3 (.tmp 6)), (some (36, false))⟩, ⟨(some 41), (.call 93 [(.tmp 37), (.tmp 38), (.tmp 39), (.tmp 40)]), (some (36, false))⟩, ⟨(some 42), (.nt (.tmp 41)), (some (36, false))⟩, ⟨(some 43), (.pick (.tmp 36) (.const (.bool true)) (.tmp 42)), none⟩])
    (.cond (.tmp 43)
    (.seq (.reg [⟨(some 4), (.mv (.const (.bool false))), none⟩]) .ret) .skip))))
    (.reg [⟨(some 25), (.mv (.tmp 5)), none⟩, ⟨(some 26), (.ar .add (.tmp 25) (.const (.int .i64 1))), none⟩, ⟨(some 5), (.mv (.tmp 26)), none⟩]))))))
    (.seq (.reg [⟨(some 8), (.mv (.const (.slice none 0 0))), none⟩])
    (.seq (.seq
    (.reg [⟨(some 9), (.mv (.const (.int .i64 0))), none⟩])
    (.block 2
    (.loop (.seq
    (.seq (.reg [⟨(some 44), (.mv (.tmp 9)), none⟩, ⟨(some 45), (.fad 1 (.tmp 2)), none⟩, ⟨(some 46), (.ld1 (.tmp 45)), none⟩, ⟨(some 47), (.cmp .lss (.tmp 44) (.tmp 46)), none⟩])
    (.cond (.tmp 47) .skip (.exit 2)))
    (.seq (.block 3
    (.seq (.reg [⟨(some 10), (.mv (.const (.int .i64 0))), none⟩])
    (.block 4
    (.loop (.seq
    (.seq (.reg [⟨(some 50), (.mv (.tmp 10)), none⟩, ⟨(some 51), (.fad 2 (.tmp 2)), none⟩, ⟨(some 52), (.ld1 (.tmp 51)), none⟩, ⟨(some 53), (.cmp .lss (.tmp 50) (.tmp 52)), none⟩])
    (.cond (.tmp 53) .skip (.exit 4)))
    (.seq (.block 5
    (.seq (.reg [⟨(some 56), (.mv (.tmp 1)), none⟩, ⟨(some 57), (.ldn 3 (.tmp 2)), none⟩, ⟨(some 58), (.mv (.tmp 9)), none⟩, ⟨(some 59), (.mv (.tmp 10)), none⟩, ⟨(some 60), (.pcall 34 [(.tmp 57), (.tmp 58), (.tmp 59)]), none⟩, ⟨(some 61), (.iad 1 (.tmp 56) (.tmp 60)), none⟩, ⟨(some 62), (.ld1 (.tmp 61)), none⟩, ⟨(some 11), (.mv (.tmp 62)), none⟩])
    (.seq (.seq
    (.reg [⟨(some 63), (.mv (.tmp 11)), none⟩, ⟨(some 64), (.cmp .eql (.tmp 63) (.const (.int .u64 0))), none⟩])
    (.cond (.tmp 64) (.exit 5) .skip))
    (.seq (.reg [⟨(some 66), (.ldn 3 (.tmp 2)), none⟩, ⟨(some 67), (.mv (.tmp 11)), none⟩, ⟨(some 68), (.pcall 94 [(.tmp 66), (.tmp 67)]), none⟩, ⟨(some 65), (.mv (.tmp 68)), none⟩, ⟨(some 69), (.ext 0 (.tmp 65)), none⟩, ⟨(some 70), (.ext 1 (.tmp 65)), none⟩, ⟨(some 12), (.alc 55 (.agg #[(.int .i64 0), (.int .i64 0), (.int .i64 0)])), none⟩, ⟨none, (.stn 3 (.tmp 12) (.tmp 69)), none⟩, ⟨(some 13), (.mv (.tmp 70)), none⟩])
    (.seq (.seq
    (.reg [⟨(some 71), (.mv (.tmp 13)), none⟩, ⟨(some 72), (.nt (.tmp 71)), none⟩])
    (.cond (.tmp 72)
    (.seq (.reg [⟨(some 4), (.mv (.const (.bool false))), none⟩]) .ret) .skip))
    (.seq (.reg [⟨(some 74), (.ldn 3 (.tmp 2)), none⟩, ⟨(some 75), (.mv (.tmp 1)), none⟩, ⟨(some 76), (.fad 0 (.tmp 12)), none⟩, ⟨(some 77), (.ld1 (.tmp 76)), none⟩, ⟨(some 78), (.call 92 [(.tmp 74), (.tmp 75), (.tmp 77)]), none⟩, ⟨(some 73), (.mv (.tmp 78)), none⟩, ⟨(some 79), (.ext 0 (.tmp 73)), none⟩, ⟨(some 80), (.ext 1 (.tmp 73)), none⟩, ⟨(some 14), (.alc 32 (.agg #[(.int .i64 0), (.int .i64 0), (.int .i64 0)])), none⟩, ⟨none, (.stn 3 (.tmp 14) (.tmp 79)), none⟩, ⟨(some 15), (.mv (.tmp 80)), none⟩])
    (.seq (.seq
    (.reg [⟨(some 81), (.fad 0 (.tmp 14)), none⟩, ⟨(some 82), (.ld1 (.tmp 81)), none⟩, ⟨(some 83), (.cmp .neq (.tmp 82) (.const (.int .i64 2))), none⟩, ⟨(some 84), (.mv (.tmp 83)), none⟩, ⟨(some 85), (.fad 1 (.tmp 14)), (some (84, false))⟩, ⟨(some 86), (.ld1 (.tmp 85)), (some (84, false))⟩, ⟨(some 87), (.fad 2 (.tmp 12)), (some (84, false))⟩, ⟨(some 88), (.ld1 (.tmp 87)), (some (84, false))⟩, ⟨(some 89), (.cmp .neq (.tmp 86) (.tmp 88)), (some (84, false))⟩, ⟨(some 90), (.pick (.tmp 84) (.const (.bool true)) (.tmp 89)), none⟩, ⟨(some 91), (.mv (.tmp 90)), none⟩, ⟨(some 92), (.mv (.tmp 1)), (some (91, false))⟩, ⟨(some 93), (.ldn 3 (.tmp 2)), (some (91, false))⟩, ⟨(some 94), (.fad 0 (.tmp 12)), (some (91, false))⟩, ⟨(some 95), (.ld1 (.tmp 94)), (some (91, false))⟩, ⟨(some 96), (.fad 1 (.tmp 12)), (some (91, false))⟩, ⟨(some 97), (.ld1 (.tmp 96)), (some (91, false))⟩, ⟨(some 98), (.pcall 21 [(.tmp 93), (.tmp 95), (.tmp 97)]), (some (91, false))⟩, ⟨(some 99), (.iad 1 (.tmp 92) (.tmp 98)), (some (91, false))⟩, ⟨(some 100), (.ld1 (.tmp 99)), (some (91, false))⟩, ⟨(some 101), (.mv (.tmp 9)), (some (91, false))⟩, ⟨(some 102), (.bld #[(.int .i64 0), (.int .i64 0)] [(0, (1, (.const (.int .i64 2)))), (1, (1, (.tmp 101)))]), (some (91, false))⟩, ⟨(some 103), (.pcall 20 [(.tmp 102)]), (some (91, false))⟩, ⟨(some 104), (.cmp .neq (.tmp 100) (.tmp 103)), (some (91, false))⟩, ⟨(some 105), (.pick (.tmp 91) (.const (.bool true)) (.tmp 104)), none⟩])
    (.cond (.tmp 105)
    (.seq (.reg [⟨(some 4), (.mv (.const (.bool false))), none⟩]) .ret) .skip))
    (.seq (.seq
    (.reg [⟨(some 16), (.mv (.const (.int .i64 0))), none⟩])
    (.block 6
    (.loop (.seq
    (.seq (.reg [⟨(some 106), (.mv (.tmp 16)), none⟩, ⟨(some 107), (.mv (.tmp 8)), none⟩, ⟨(some 108), (.len (.tmp 107)), none⟩, ⟨(some 109), (.cmp .lss (.tmp 106) (.tmp 108)), none⟩])
    (.cond (.tmp 109) .skip (.exit 6)))
    (.seq (.block 7
    (.seq (.reg [⟨(some 112), (.mv (.tmp 8)), none⟩, ⟨(some 113), (.mv (.tmp 16)), none⟩, ⟨(some 114), (.iad 3 (.tmp 112) (.tmp 113)), none⟩, ⟨(some 115), (.fad 0 (.tmp 114)), none⟩, ⟨(some 116), (.ld1 (.tmp 115)), none⟩, ⟨(some 117), (.fad 0 (.tmp 12)), none⟩, ⟨(some 118), (.ld1 (.tmp 117)), none⟩, ⟨(some 119), (.cmp .eql (.tmp 116) (.tmp 118)), none⟩, ⟨(some 120), (.mv (.tmp 119)), none⟩, ⟨(some 121), (.mv (.tmp 8)), (some (120, true))⟩, ⟨(some 122), (.mv (.tmp 16)), (some (120, true))⟩, ⟨(some 123), (.iad 3 (.tmp 121) (.tmp 122)), (some (120, true))⟩, ⟨(some 124), (.fad 1 (.tmp 123)), (some (120, true))⟩, ⟨(some 125), (.ld1 (.tmp 124)), (some (120, true))⟩, ⟨(some 126), (.fad 1 (.tmp 12)), (some (120, true))⟩, ⟨(some 127), (.ld1 (.tmp 126)), (some (120, true))⟩, ⟨(some 128), (.cmp .eql (.tmp 125) (.tmp 127)), (some (120, true))⟩, ⟨(some 129), (.pick (.tmp 120) (.tmp 128) (.const (.bool false))), none⟩])
    (.cond (.tmp 129)
    (.seq (.reg [⟨(some 4), (.mv (.const (.bool false))), none⟩]) .ret) .skip)))
    (.reg [⟨(some 110), (.mv (.tmp 16)), none⟩, ⟨(some 111), (.ar .add (.tmp 110) (.const (.int .i64 1))), none⟩, ⟨(some 16), (.mv (.tmp 111)), none⟩]))))))
    (.reg [⟨(some 130), (.mv (.tmp 8)), none⟩, ⟨(some 131), (.ldn 3 (.tmp 12)), none⟩, ⟨(some 132), (.bsl 55 #[(.int .i64 0), (.int .i64 0), (.int .i64 0)] 1 3 [(0, (.tmp 131))]), none⟩, ⟨(some 133), (.app 55 3 24 #[(.int .i64 0), (.int .i64 0), (.int .i64 0)] (.tmp 130) (.tmp 132)), none⟩, ⟨(some 8), (.mv (.tmp 133)), none⟩])))))))))
    (.reg [⟨(some 54), (.mv (.tmp 10)), none⟩, ⟨(some 55), (.ar .add (.tmp 54) (.const (.int .i64 1))), none⟩, ⟨(some 10), (.mv (.tmp 55)), none⟩])))))))
    (.reg [⟨(some 48), (.mv (.tmp 9)), none⟩, ⟨(some 49), (.ar .add (.tmp 48) (.const (.int .i64 1))), none⟩, ⟨(some 9), (.mv (.tmp 49)), none⟩]))))))
    (.seq (.reg [⟨(some 4), (.mv (.const (.bool true))), none⟩]) .ret))))))⟩ := by kernel_rfl

/-- allotment/allotmentref20.Blocks -/
theorem tr41 : trF Try.prog pures Try.f41 = some
  ⟨81, [(.t 4)],
    (.seq (.reg [⟨(some 2), (.box 25 (.tmp 0)), none⟩, ⟨(some 4), (.mv (.const (.slice none 0 0))), none⟩])
    (.seq (.reg [⟨(some 5), (.mv (.const (.slice none 0 0))), none⟩])
    (.seq (.seq
    (.reg [⟨(some 6), (.mv (.const (.int .i64 0))), none⟩])
    (.block 0
    (.loop (.seq
    (.seq (.reg [⟨(some 11), (.mv (.tmp 6)), none⟩, ⟨(some 12), (.fad 0 (.tmp 2)), none⟩, ⟨(some 13), (.ld1 (.tmp 12)), none⟩, ⟨(some 14), (.cmp .lss (.tmp 11) (.tmp 13)), none⟩, ⟨(some 15), (.mv (.tmp 14)), none⟩, ⟨(some 16), (.ldn 3 (.tmp 2)), (some (15, true))⟩, ⟨(some 17), (.mv (.tmp 1)), (some (15, true))⟩, ⟨(some 18), (.call 91 [(.tmp 16), (.tmp 17)]), (some (15, true))⟩, ⟨(some 19), (.pick (.tmp 15) (.tmp 18) (.const (.bool false))), none⟩])
    (.cond (.tmp 19) .skip (.exit 0)))
    (.seq (.block 1
    (.seq (.reg [⟨(some 23), (.ldn 3 (.tmp 2)), none⟩, ⟨(some 24), (.mv (.tmp 1)), none⟩, ⟨(some 25), (.mv (.tmp 6)), none⟩, ⟨(some 26), (.call 92 [(.tmp 23), (.tmp 24), (.tmp 25)]), none⟩, ⟨(some 22), (.mv (.tmp 26)), none⟩, ⟨(some 27), (.ext 0 (.tmp 22)), none⟩, ⟨(some 28), (.ext 1 (.tmp 22)), none⟩, ⟨(some 7), (.alc 32 (.agg #[(.int .i64 0), (.int .i64 0), (.int .i64 0)])), none⟩, ⟨none, (.stn 3 (.tmp 7) (.tmp 27)), none⟩, ⟨(some 8), (.mv (.tmp 28)), none⟩])
    (.block 2
    (.seq (.reg [⟨(some 30), (.mv (.tmp 8)), none⟩, ⟨(some 31), (.mv (.tmp 30)), none⟩, ⟨(some 32), (.fad 0 (.tmp 7)), (some (31, true))⟩, ⟨(some 33), (.ld1 (.tmp 32)), (some (31, true))⟩, ⟨(some 34), (.cmp .eql (.tmp 33) (.const (.int .i64 3))), (some (31, true))⟩, ⟨(some 35), (.pick (.tmp 31) (.tmp 34) (.const (.bool false))), none⟩, ⟨(some 29), (.mv (.tmp 35)), none⟩])
    (.cond (.tmp 29) .no
    (.seq (.reg [⟨(some 46), (.mv (.tmp 8)), none⟩, ⟨(some 47), (.mv (.tmp 46)), none⟩, ⟨(some 48), (.fad 0 (.tmp 7)), (some (47, true))⟩, ⟨(some 49), (.ld1 (.tmp 48)), (some (47, true))⟩, ⟨(some 50), (.cmp .eql (.tmp 49) (.const (.int .i64 2))), (some (47, true))⟩, ⟨(some 51), (.pick (.tmp 47) (.tmp 50) (.const (.bool false))), none⟩, ⟨(some 45), (.mv (.tmp 51)), none⟩])
    (.cond (.tmp 45)
    (.seq (.reg [⟨(some 52), (.fad 1 (.tmp 7)), none⟩, ⟨(some 53), (.ld1 (.tmp 52)), none⟩, ⟨(some 54), (.pcall 29 [(.tmp 53)]), none⟩, ⟨(some 9), (.mv (.tmp 54)), none⟩])
    (.seq (.reg [⟨(some 10), (.mv (.const (.int .i64 0))), none⟩])
    (.block 3
    (.loop (.seq
    (.seq (.reg [⟨(some 55), (.mv (.tmp 10)), none⟩, ⟨(some 56), (.fad 1 (.tmp 7)), none⟩, ⟨(some 57), (.ld1 (.tmp 56)), none⟩, ⟨(some 58), (.pcall 19 [(.tmp 57)]), none⟩, ⟨(some 59), (.cmp .lss (.tmp 55) (.tmp 58)), none⟩])
    (.cond (.tmp 59) .skip (.exit 3)))
    (.seq (.block 4
    (.seq (.reg [⟨(some 62), (.ldn 3 (.tmp 2)), none⟩, ⟨(some 63), (.mv (.tmp 1)), none⟩, ⟨(some 64), (.mv (.tmp 6)), none⟩, ⟨(some 65), (.mv (.tmp 10)), none⟩, ⟨(some 66), (.call 96 [(.tmp 62), (.tmp 63), (.tmp 64), (.tmp 65)]), none⟩, ⟨(some 67), (.fld1 0 (.tmp 66)), none⟩, ⟨(some 68), (.cmp .eql (.tmp 67) (.const (.int .i64 3))), none⟩])
    (.cond (.tmp 68) .no .skip)))
    (.reg [⟨(some 60), (.mv (.tmp 10)), none⟩, ⟨(some 61), (.ar .add (.tmp 60) (.const (.int .i64 1))), none⟩, ⟨(some 10), (.mv (.tmp 61)), none⟩]))))))) .skip)))))))
    (.reg [⟨(some 20), (.mv (.tmp 6)), none⟩, ⟨(some 21), (.ar .add (.tmp 20) (.const (.int .i64 1))), none⟩, ⟨(some 6), (.mv (.tmp 21)), none⟩]))))))
    (.seq (.reg [⟨(some 80), (.mv (.tmp 5)), none⟩, ⟨(some 4), (.mv (.tmp 80)), none⟩]) .ret))))⟩ := by kernel_rfl

/-- allotment/allotmentref20.Room -/
theorem tr42 : trF Try.prog pures Try.f42 = some
  ⟨89, [(.t 6)],
    (.seq (.reg [⟨(some 3), (.box 25 (.tmp 0)), none⟩, ⟨(some 6), (.mv (.const (.bool false))), none⟩])
    (.seq (.reg [⟨(some 18), (.mv (.tmp 2)), none⟩, ⟨(some 19), (.pcall 97 [(.tmp 18)]), none⟩, ⟨(some 17), (.mv (.tmp 19)), none⟩, ⟨(some 20), (.ext 0 (.tmp 17)), none⟩, ⟨(some 21), (.ext 1 (.tmp 17)), none⟩, ⟨(some 7), (.mv (.tmp 20)), none⟩, ⟨(some 8), (.mv (.tmp 21)), none⟩])
    (.seq (.reg [⟨(some 23), (.mv (.tmp 2)), none⟩, ⟨(some 24), (.pcall 98 [(.tmp 23)]), none⟩, ⟨(some 22), (.mv (.tmp 24)), none⟩, ⟨(some 25), (.ext 0 (.tmp 22)), none⟩, ⟨(some 26), (.ext 1 (.tmp 22)), none⟩, ⟨(some 9), (.mv (.tmp 25)), none⟩, ⟨(some 10), (.mv (.tmp 26)), none⟩])
    (.seq (.seq
    (.reg [⟨(some 27), (.mv (.tmp 10)), none⟩])
    (.cond (.tmp 27)
    (.reg [⟨(some 7), (.mv (.const (.int .i64 1))), none⟩]) .skip))
    (.seq (.seq
    (.reg [⟨(some 28), (.mv (.tmp 8)), none⟩, ⟨(some 29), (.nt (.tmp 28)), none⟩, ⟨(some 30), (.mv (.tmp 29)), none⟩, ⟨(some 31), (.mv (.tmp 10)), (some (30, true))⟩, ⟨(some 32), (.nt (.tmp 31)), (some (30, true))⟩, ⟨(some 33), (.pick (.tmp 30) (.tmp 32) (.const (.bool false))), none⟩, ⟨(some 34), (.mv (.tmp 33)), none⟩, ⟨(some 35), (.ldn 3 (.tmp 3)), (some (34, false))⟩, ⟨(some 36), (.mv (.tmp 1)), (some (34, false))⟩, ⟨(some 37), (.call 91 [(.tmp 35), (.tmp 36)]), (some (34, false))⟩, ⟨(some 38), (.nt (.tmp 37)), (some (34, false))⟩, ⟨(some 39), (.pick (.tmp 34) (.const (.bool true)) (.tmp 38)), none⟩])
    (.cond (.tmp 39)
    (.seq (.reg [⟨(some 6), (.mv (.const (.bool false))), none⟩]) .ret) .skip))
    (.seq (.reg [⟨(some 11), (.mv (.const (.int .i64 0))), none⟩])
    (.seq (.seq
    (.reg [⟨(some 12), (.mv (.const (.int .i64 0))), none⟩])
    (.block 0
    (.loop (.seq
    (.seq (.reg [⟨(some 40), (.mv (.tmp 12)), none⟩, ⟨(some 41), (.fad 0 (.tmp 3)), none⟩, ⟨(some 42), (.ld1 (.tmp 41)), none⟩, ⟨(some 43), (.cmp .lss (.tmp 40) (.tmp 42)), none⟩])
    (.cond (.tmp 43) .skip (.exit 0)))
    (.seq (.block 1
    (.seq (.reg [⟨(some 47), (.ldn 3 (.tmp 3)), none⟩, ⟨(some 48), (.mv (.tmp 1)), none⟩, ⟨(some 49), (.mv (.tmp 12)), none⟩, ⟨(some 50), (.call 92 [(.tmp 47), (.tmp 48), (.tmp 49)]), none⟩, ⟨(some 46), (.mv (.tmp 50)), none⟩, ⟨(some 51), (.ext 0 (.tmp 46)), none⟩, ⟨(some 52), (.ext 1 (.tmp 46)), none⟩, ⟨(some 13), (.alc 32 (.agg #[(.int .i64 0), (.int .i64 0), (.int .i64 0)])), none⟩, ⟨none, (.stn 3 (.tmp 13) (.tmp 51)), none⟩, ⟨(some 14), (.mv (.tmp 52)), none⟩])
    (.seq (.reg [⟨(some 53), (.mv (.tmp 14)), none⟩, ⟨(some 54), (.mv (.tmp 53)), none⟩, ⟨(some 55), (.fad 0 (.tmp 13)), (some (54, true))⟩, ⟨(some 56), (.ld1 (.tmp 55)), (some (54, true))⟩, ⟨(some 57), (.cmp .eql (.tmp 56) (.const (.int .i64 0))), (some (54, true))⟩, ⟨(some 58), (.pick (.tmp 54) (.tmp 57) (.const (.bool false))), none⟩, ⟨(some 15), (.mv (.tmp 58)), none⟩])
    (.seq (.seq
    (.reg [⟨(some 59), (.mv (.tmp 14)), none⟩, ⟨(some 60), (.mv (.tmp 59)), none⟩, ⟨(some 61), (.fad 0 (.tmp 13)), (some (60, true))⟩, ⟨(some 62), (.ld1 (.tmp 61)), (some (60, true))⟩, ⟨(some 63), (.cmp .eql (.tmp 62) (.const (.int .i64 2))), (some (60, true))⟩, ⟨(some 64), (.pick (.tmp 60) (.tmp 63) (.const (.bool false))), none⟩])
    (.cond (.tmp 64)
    (.seq (.reg [⟨(some 15), (.mv (.const (.bool true))), none⟩])
    (.seq (.reg [⟨(some 16), (.mv (.const (.int .i64 0))), none⟩])
    (.block 2
    (.loop (.seq
    (.seq (.reg [⟨(some 65), (.mv (.tmp 16)), none⟩, ⟨(some 66), (.fad 1 (.tmp 13)), none⟩, ⟨(some 67), (.ld1 (.tmp 66)), none⟩, ⟨(some 68), (.pcall 19 [(.tmp 67)]), none⟩, ⟨(some 69), (.cmp .lss (.tmp 65) (.tmp 68)), none⟩])
    (.cond (.tmp 69) .skip (.exit 2)))
    (.seq (.block 3
    (.reg [⟨(some 72), (.mv (.tmp 15)), none⟩, ⟨(some 73), (.mv (.tmp 72)), none⟩, ⟨(some 74), (.ldn 3 (.tmp 3)), (some (73, true))⟩, ⟨(some 75), (.mv (.tmp 1)), (some (73, true))⟩, ⟨(some 76), (.mv (.tmp 12)), (some (73, true))⟩, ⟨(some 77), (.mv (.tmp 16)), (some (73, true))⟩, ⟨(some 78), (.call 96 [(.tmp 74), (.tmp 75), (.tmp 76), (.tmp 77)]), (some (73, true))⟩, ⟨(some 79), (.fld1 0 (.tmp 78)), (some (73, true))⟩, ⟨(some 80), (.cmp .eql (.tmp 79) (.const (.int .i64 1))), (some (73, true))⟩, ⟨(some 81), (.pick (.tmp 73) (.tmp 80) (.const (.bool false))), none⟩, ⟨(some 15), (.mv (.tmp 81)), none⟩]))
    (.reg [⟨(some 70), (.mv (.tmp 16)), none⟩, ⟨(some 71), (.ar .add (.tmp 70) (.const (.int .i64 1))), none⟩, ⟨(some 16), (.mv (.tmp 71)), none⟩]))))))) .skip))
    (.seq (.reg [⟨(some 82), (.mv (.tmp 11)), none⟩, ⟨(some 83), (.ar .add (.tmp 82) (.const (.int .i64 1))), none⟩, ⟨(some 11), (.mv (.tmp 83)), none⟩])
    (.seq (.seq
    (.reg [⟨(some 84), (.mv (.tmp 15)), none⟩, ⟨(some 85), (.nt (.tmp 84)), none⟩])
    (.cond (.tmp 85)
    (.reg [⟨(some 11), (.mv (.const (.int .i64 0))), none⟩]) .skip))
    (.seq (.reg [⟨(some 86), (.mv (.tmp 11)), none⟩, ⟨(some 87), (.mv (.tmp 7)), none⟩, ⟨(some 88), (.cmp .geq (.tmp 86) (.tmp 87)), none⟩])
    (.cond (.tmp 88)
    (.seq (.reg [⟨(some 6), (.mv (.const (.bool true))), none⟩]) .ret) .skip))))))))
    (.reg [⟨(some 44), (.mv (.tmp 12)), none⟩, ⟨(some 45), (.ar .add (.tmp 44) (.const (.int .i64 1))), none⟩, ⟨(some 12), (.mv (.tmp 45)), none⟩]))))))
    (.seq (.reg [⟨(some 6), (.mv (.const (.bool false))), none⟩]) .ret))))))))⟩ := by kernel_rfl

/-- allotment/adopt.New -/
theorem tr51 : trF Try.prog pures Try.f51 = some
  ⟨31, [(.t 6)],
    (.seq (.reg [⟨(some 3), (.box 25 (.tmp 0)), none⟩, ⟨(some 6), (.mv (.const (.pointer none))), none⟩])
    (.seq (.reg [⟨(some 8), (.ldn 3 (.tmp 3)), none⟩, ⟨(some 9), (.mv (.tmp 1)), none⟩, ⟨(some 10), (.mv (.tmp 2)), none⟩, ⟨(some 11), (.bld #[(.int .i64 0), (.int .i64 0), (.int .i64 0), (.int .i64 0), (.int .i64 0), (.int .i64 0), (.int .u64 0), (.int .i64 0), (.int .i64 0), (.int .i64 0), (.int .i64 0), (.int .i64 0), (.int .i64 0), (.int .i64 0), (.bool false)] [(0, (3, (.tmp 8))), (3, (1, (.tmp 9))), (4, (1, (.tmp 10)))]), none⟩, ⟨(some 12), (.box 148 (.tmp 11)), none⟩, ⟨(some 7), (.mv (.tmp 12)), none⟩])
    (.seq (.seq
    (.reg [⟨(some 13), (.ldn 3 (.tmp 3)), none⟩, ⟨(some 14), (.mv (.tmp 1)), none⟩, ⟨(some 15), (.pcall 68 [(.tmp 13), (.tmp 14)]), none⟩, ⟨(some 16), (.cmp .lss (.tmp 15) (.const (.int .i64 0))), none⟩, ⟨(some 17), (.mv (.tmp 16)), none⟩, ⟨(some 18), (.ldn 3 (.tmp 3)), (some (17, false))⟩, ⟨(some 19), (.mv (.tmp 2)), (some (17, false))⟩, ⟨(some 20), (.pcall 68 [(.tmp 18), (.tmp 19)]), (some (17, false))⟩, ⟨(some 21), (.cmp .lss (.tmp 20) (.const (.int .i64 0))), (some (17, false))⟩, ⟨(some 22), (.pick (.tmp 17) (.const (.bool true)) (.tmp 21)), none⟩, ⟨(some 23), (.mv (.tmp 22)), none⟩, ⟨(some 24), (.mv (.tmp 1)), (some (23, false))⟩, ⟨(some 25), (.mv (.tmp 2)), (some (23, false))⟩, ⟨(some 26), (.cmp .eql (.tmp 24) (.tmp 25)), (some (23, false))⟩, ⟨(some 27), (.pick (.tmp 23) (.const (.bool true)) (.tmp 26)), none⟩])
    (.cond (.tmp 27)
    (.reg [⟨(some 28), (.mv (.tmp 7)), none⟩, ⟨(some 29), (.call 118 [(.tmp 28), (.const (.int .i64 1))]), none⟩]) .skip))
    (.seq (.reg [⟨(some 30), (.mv (.tmp 7)), none⟩, ⟨(some 6), (.mv (.tmp 30)), none⟩]) .ret))))⟩ := by kernel_rfl

/-- (*allotment/adopt.Adopter).Step -/
theorem tr54 : trF Try.prog pures Try.f54 = some
  ⟨82, [],
    (.block 0
    (.seq (.reg [⟨(some 8), (.mv (.tmp 0)), none⟩, ⟨(some 9), (.pnil false (.tmp 8)), none⟩, ⟨(some 10), (.mv (.tmp 9)), none⟩, ⟨(some 11), (.mv (.tmp 0)), (some (10, false))⟩, ⟨(some 12), (.nilck (.tmp 11)), (some (10, false))⟩, ⟨(some 13), (.fad 14 (.tmp 12)), (some (10, false))⟩, ⟨(some 14), (.ld1 (.tmp 13)), (some (10, false))⟩, ⟨(some 15), (.pick (.tmp 10) (.const (.bool true)) (.tmp 14)), none⟩, ⟨(some 7), (.mv (.tmp 15)), none⟩])
    (.cond (.tmp 7) .skip
    (.seq (.reg [⟨(some 17), (.mv (.tmp 0)), none⟩, ⟨(some 18), (.nilck (.tmp 17)), none⟩, ⟨(some 19), (.fad 5 (.tmp 18)), none⟩, ⟨(some 20), (.ld1 (.tmp 19)), none⟩, ⟨(some 21), (.cmp .leq (.tmp 20) (.const (.int .i64 2))), none⟩, ⟨(some 16), (.mv (.tmp 21)), none⟩])
    (.cond (.tmp 16)
    (.reg [⟨(some 22), (.mv (.tmp 0)), none⟩, ⟨(some 23), (.mv (.tmp 1)), none⟩, ⟨(some 24), (.call 119 [(.tmp 22), (.tmp 23)]), none⟩])
    (.seq (.reg [⟨(some 26), (.mv (.tmp 0)), none⟩, ⟨(some 27), (.nilck (.tmp 26)), none⟩, ⟨(some 28), (.fad 5 (.tmp 27)), none⟩, ⟨(some 29), (.ld1 (.tmp 28)), none⟩, ⟨(some 30), (.cmp .leq (.tmp 29) (.const (.int .i64 8))), none⟩, ⟨(some 25), (.mv (.tmp 30)), none⟩])
    (.cond (.tmp 25)
    (.reg [⟨(some 31), (.mv (.tmp 0)), none⟩, ⟨(some 32), (.mv (.tmp 1)), none⟩, ⟨(some 33), (.call 120 [(.tmp 31), (.tmp 32)]), none⟩])
    (.seq (.reg [⟨(some 35), (.mv (.tmp 0)), none⟩, ⟨(some 36), (.nilck (.tmp 35)), none⟩, ⟨(some 37), (.fad 5 (.tmp 36)), none⟩, ⟨(some 38), (.ld1 (.tmp 37)), none⟩, ⟨(some 39), (.cmp .eql (.tmp 38) (.const (.int .i64 9))), none⟩, ⟨(some 34), (.mv (.tmp 39)), none⟩])
    (.cond (.tmp 34)
    (.seq (.draw (.take ⟨(some 40), (.mv (.tmp 1)), none⟩ (.take ⟨(some 41), (.mv (.tmp 0)), none⟩ (.take ⟨(some 42), (.nilck (.tmp 41)), none⟩ (.take ⟨(some 43), (.fad 3 (.tmp 42)), none⟩ (.take ⟨(some 44), (.ld1 (.tmp 43)), none⟩ (.take ⟨(some 45), (.mv (.tmp 0)), none⟩ (.take ⟨(some 46), (.nilck (.tmp 45)), none⟩ (.take ⟨(some 47), (.fad 0 (.tmp 46)), none⟩ (.take ⟨(some 48), (.ldn 3 (.tmp 47)), none⟩ (.take ⟨(some 49), (.mv (.tmp 0)), none⟩ (.take ⟨(some 50), (.nilck (.tmp 49)), none⟩ (.take ⟨(some 51), (.fad 4 (.tmp 50)), none⟩ (.take ⟨(some 52), (.ld1 (.tmp 51)), none⟩ (.take ⟨(some 53), (.mv (.tmp 0)), none⟩ (.take ⟨(some 54), (.nilck (.tmp 53)), none⟩ (.take ⟨(some 55), (.fad 9 (.tmp 54)), none⟩ (.take ⟨(some 56), (.ld1 (.tmp 55)), none⟩ (.alt false ⟨(some 57), (.pcall 121 [(.tmp 48), (.tmp 52), (.tmp 56)]), none⟩ (.alt true ⟨(some 58), (.call 78 [(.tmp 40), (.tmp 44), (.tmp 57), (.const (.int .u64 0))]), none⟩ .done .stop) .stop)))))))))))))))))))
    (.seq (.reg [⟨(some 59), (.mv (.tmp 0)), none⟩, ⟨(some 60), (.nilck (.tmp 59)), none⟩, ⟨(some 61), (.fad 9 (.tmp 60)), none⟩, ⟨(some 62), (.ld1 (.tmp 61)), none⟩, ⟨(some 63), (.ar .add (.tmp 62) (.const (.int .i64 1))), none⟩, ⟨(some 64), (.nilck (.tmp 59)), none⟩, ⟨(some 65), (.fad 9 (.tmp 64)), none⟩, ⟨none, (.st1 (.tmp 65) (.tmp 63)), none⟩])
    (.seq (.reg [⟨(some 66), (.mv (.tmp 0)), none⟩, ⟨(some 67), (.nilck (.tmp 66)), none⟩, ⟨(some 68), (.fad 9 (.tmp 67)), none⟩, ⟨(some 69), (.ld1 (.tmp 68)), none⟩, ⟨(some 70), (.mv (.tmp 0)), none⟩, ⟨(some 71), (.nilck (.tmp 70)), none⟩, ⟨(some 72), (.fad 0 (.tmp 71)), none⟩, ⟨(some 73), (.fad 2 (.tmp 72)), none⟩, ⟨(some 74), (.ld1 (.tmp 73)), none⟩, ⟨(some 75), (.cmp .eql (.tmp 69) (.tmp 74)), none⟩])
    (.cond (.tmp 75)
    (.reg [⟨(some 76), (.mv (.tmp 0)), none⟩, ⟨(some 77), (.mv (.tmp 0)), none⟩, ⟨(some 78), (.nilck (.tmp 76)), none⟩, ⟨(some 79), (.fad 9 (.tmp 78)), none⟩, ⟨none, (.st1 (.tmp 79) (.const (.int .i64 0))), none⟩, ⟨(some 80), (.nilck (.tmp 77)), none⟩, ⟨(some 81), (.fad 5 (.tmp 80)), none⟩, ⟨none, (.st1 (.tmp 81) (.const (.int .i64 10))), none⟩]) .skip))))
    (.reg [⟨(some 4), (.mv (.tmp 0)), none⟩, ⟨(some 5), (.mv (.tmp 1)), none⟩, ⟨(some 6), (.call 122 [(.tmp 4), (.tmp 5)]), none⟩]))))))))))⟩ := by kernel_rfl

/-- (*allotment/adopt.Adopter).Done -/
theorem tr55 : trF Try.prog pures Try.f55 = some
  ⟨11, [(.t 2)],
    (.seq (.reg [⟨(some 2), (.mv (.const (.bool false))), none⟩])
    (.seq (.reg [⟨(some 3), (.mv (.tmp 0)), none⟩, ⟨(some 4), (.pnil true (.tmp 3)), none⟩, ⟨(some 5), (.mv (.tmp 4)), none⟩, ⟨(some 6), (.mv (.tmp 0)), (some (5, true))⟩, ⟨(some 7), (.nilck (.tmp 6)), (some (5, true))⟩, ⟨(some 8), (.fad 14 (.tmp 7)), (some (5, true))⟩, ⟨(some 9), (.ld1 (.tmp 8)), (some (5, true))⟩, ⟨(some 10), (.pick (.tmp 5) (.tmp 9) (.const (.bool false))), none⟩, ⟨(some 2), (.mv (.tmp 10)), none⟩]) .ret))⟩ := by kernel_rfl

/-- (*allotment/adopt.Adopter).Err -/
theorem tr56 : trF Try.prog pures Try.f56 = some
  ⟨9, [(.t 2)],
    (.seq (.reg [⟨(some 2), (.mv (.const (.int .i64 0))), none⟩])
    (.seq (.seq
    (.reg [⟨(some 3), (.mv (.tmp 0)), none⟩, ⟨(some 4), (.pnil false (.tmp 3)), none⟩])
    (.cond (.tmp 4)
    (.seq (.reg [⟨(some 2), (.mv (.const (.int .i64 1))), none⟩]) .ret) .skip))
    (.seq (.reg [⟨(some 5), (.mv (.tmp 0)), none⟩, ⟨(some 6), (.nilck (.tmp 5)), none⟩, ⟨(some 7), (.fad 13 (.tmp 6)), none⟩, ⟨(some 8), (.ld1 (.tmp 7)), none⟩, ⟨(some 2), (.mv (.tmp 8)), none⟩]) .ret)))⟩ := by kernel_rfl

/-- allotment/seek.New -/
theorem tr61 : trF Try.prog pures Try.f61 = some
  ⟨46, [(.t 8)],
    (.seq (.reg [⟨(some 4), (.box 25 (.tmp 0)), none⟩, ⟨(some 8), (.mv (.const (.pointer none))), none⟩])
    (.seq (.reg [⟨(some 11), (.ldn 3 (.tmp 4)), none⟩, ⟨(some 12), (.mv (.tmp 1)), none⟩, ⟨(some 13), (.pcall 68 [(.tmp 11), (.tmp 12)]), none⟩, ⟨(some 14), (.cmp .geq (.tmp 13) (.const (.int .i64 0))), none⟩, ⟨(some 15), (.mv (.tmp 14)), none⟩, ⟨(some 16), (.mv (.tmp 2)), (some (15, true))⟩, ⟨(some 17), (.pcall 129 [(.tmp 16)]), (some (15, true))⟩, ⟨(some 18), (.cmp .gtr (.tmp 17) (.const (.int .i64 0))), (some (15, true))⟩, ⟨(some 19), (.pick (.tmp 15) (.tmp 18) (.const (.bool false))), none⟩, ⟨(some 20), (.mv (.tmp 19)), none⟩, ⟨(some 21), (.ldn 3 (.tmp 4)), (some (20, true))⟩, ⟨(some 22), (.mv (.tmp 3)), (some (20, true))⟩, ⟨(some 23), (.pcall 71 [(.tmp 21), (.tmp 22)]), (some (20, true))⟩, ⟨(some 24), (.cmp .geq (.tmp 23) (.const (.int .i64 0))), (some (20, true))⟩, ⟨(some 25), (.pick (.tmp 20) (.tmp 24) (.const (.bool false))), none⟩, ⟨(some 9), (.mv (.tmp 25)), none⟩])
    (.seq (.reg [⟨(some 26), (.ldn 3 (.tmp 4)), none⟩, ⟨(some 27), (.mv (.tmp 1)), none⟩, ⟨(some 28), (.mv (.tmp 2)), none⟩, ⟨(some 29), (.mv (.tmp 3)), none⟩, ⟨(some 30), (.mv (.tmp 9)), none⟩, ⟨(some 31), (.nt (.tmp 30)), none⟩, ⟨(some 32), (.bld #[(.int .i64 0), (.int .i64 0), (.int .i64 0), (.int .i64 0), (.int .i64 0), (.int .i64 0), .nilIface, (.int .i64 0), (.int .i64 0), (.int .i64 0), (.bool false), (.bool false)] [(0, (3, (.tmp 26))), (3, (1, (.tmp 27))), (4, (1, (.tmp 28))), (5, (1, (.tmp 29))), (11, (1, (.tmp 31)))]), none⟩, ⟨(some 33), (.box 155 (.tmp 32)), none⟩, ⟨(some 10), (.mv (.tmp 33)), none⟩])
    (.seq (.seq
    (.reg [⟨(some 34), (.mv (.tmp 9)), none⟩])
    (.cond (.tmp 34)
    (.seq .no
    (.reg [⟨(some 43), (.mv (.tmp 10)), none⟩, ⟨(some 44), (.call 131 [(.tmp 43)]), none⟩])) .skip))
    (.seq (.reg [⟨(some 45), (.mv (.tmp 10)), none⟩, ⟨(some 8), (.mv (.tmp 45)), none⟩]) .ret)))))⟩ := by kernel_rfl

/-- (*allotment/seek.Seeker).Step -/
theorem tr62 : trF Try.prog pures Try.f62 = some
  ⟨75, [],
    (.seq (.seq
    (.reg [⟨(some 6), (.mv (.tmp 0)), none⟩, ⟨(some 7), (.pnil false (.tmp 6)), none⟩, ⟨(some 8), (.mv (.tmp 7)), none⟩, ⟨(some 9), (.mv (.tmp 0)), (some (8, false))⟩, ⟨(some 10), (.nilck (.tmp 9)), (some (8, false))⟩, ⟨(some 11), (.fad 11 (.tmp 10)), (some (8, false))⟩, ⟨(some 12), (.ld1 (.tmp 11)), (some (8, false))⟩, ⟨(some 13), (.pick (.tmp 8) (.const (.bool true)) (.tmp 12)), none⟩])
    (.cond (.tmp 13) .ret .skip))
    (.seq (.seq .no
    (.cond (.tmp 18)
    (.seq .no
    (.seq (.reg [⟨(some 25), (.mv (.tmp 0)), none⟩, ⟨(some 26), (.call 131 [(.tmp 25)]), none⟩]) .ret)) .skip))
    (.seq (.draw (.take ⟨(some 28), (.mv (.tmp 0)), none⟩ (.take ⟨(some 29), (.nilck (.tmp 28)), none⟩ (.take ⟨(some 30), (.fad 0 (.tmp 29)), none⟩ (.take ⟨(some 31), (.ldn 3 (.tmp 30)), none⟩ (.take ⟨(some 32), (.mv (.tmp 0)), none⟩ (.take ⟨(some 34), (.mv (.tmp 1)), none⟩ (.take ⟨(some 35), (.mv (.tmp 0)), none⟩ (.take ⟨(some 36), (.nilck (.tmp 35)), none⟩ (.take ⟨(some 37), (.fad 3 (.tmp 36)), none⟩ (.take ⟨(some 38), (.ld1 (.tmp 37)), none⟩ (.take ⟨(some 39), (.mv (.tmp 0)), none⟩ (.take ⟨(some 40), (.nilck (.tmp 39)), none⟩ (.take ⟨(some 41), (.fad 0 (.tmp 40)), none⟩ (.take ⟨(some 42), (.ldn 3 (.tmp 41)), none⟩ (.take ⟨(some 43), (.mv (.tmp 0)), none⟩ (.alt false ⟨(some 33), (.call 133 [(.tmp 32)]), none⟩ (.alt false ⟨(some 44), (.call 133 [(.tmp 43)]), none⟩ (.alt false ⟨(some 45), (.pcall 71 [(.tmp 42), (.tmp 44)]), none⟩ (.alt false ⟨(some 46), (.call 134 [(.tmp 34), (.tmp 38), (.tmp 45)]), none⟩ (.alt false ⟨(some 47), (.pcall 132 [(.tmp 31), (.tmp 33), (.tmp 46)]), none⟩ (.take ⟨(some 27), (.mv (.tmp 47)), none⟩ (.take ⟨(some 48), (.ext 0 (.tmp 27)), none⟩ (.take ⟨(some 49), (.ext 1 (.tmp 27)), none⟩ (.alt false ⟨(some 4), (.alc 116 (.agg #[(.int .i64 0), (.int .i64 0), (.int .i64 0)])), none⟩ (.alt false ⟨none, (.stn 3 (.tmp 4) (.tmp 48)), none⟩ (.take ⟨(some 5), (.mv (.tmp 49)), none⟩ .done) .stop) .stop)))) (.alt false ⟨(some 4), (.alc 116 (.agg #[(.int .i64 0), (.int .i64 0), (.int .i64 0)])), none⟩ (.alt false ⟨(some 47), (.pcall 132 [(.tmp 31), (.tmp 33), (.tmp 46)]), none⟩ (.take ⟨(some 27), (.mv (.tmp 47)), none⟩ (.take ⟨(some 48), (.ext 0 (.tmp 27)), none⟩ (.take ⟨(some 49), (.ext 1 (.tmp 27)), none⟩ (.alt false ⟨none, (.stn 3 (.tmp 4) (.tmp 48)), none⟩ (.take ⟨(some 5), (.mv (.tmp 49)), none⟩ .done) .stop)))) .stop) .stop)) (.alt false ⟨(some 4), (.alc 116 (.agg #[(.int .i64 0), (.int .i64 0), (.int .i64 0)])), none⟩ (.alt false ⟨(some 46), (.call 134 [(.tmp 34), (.tmp 38), (.tmp 45)]), none⟩ (.alt false ⟨(some 47), (.pcall 132 [(.tmp 31), (.tmp 33), (.tmp 46)]), none⟩ (.take ⟨(some 27), (.mv (.tmp 47)), none⟩ (.take ⟨(some 48), (.ext 0 (.tmp 27)), none⟩ (.take ⟨(some 49), (.ext 1 (.tmp 27)), none⟩ (.alt false ⟨none, (.stn 3 (.tmp 4) (.tmp 48)), none⟩ (.take ⟨(some 5), (.mv (.tmp 49)), none⟩ .done) .stop)))) .stop) .stop) .stop)) (.alt false ⟨(some 4), (.alc 116 (.agg #[(.int .i64 0), (.int .i64 0), (.int .i64 0)])), none⟩ (.alt false ⟨(some 45), (.pcall 71 [(.tmp 42), (.tmp 44)]), none⟩ (.alt false ⟨(some 46), (.call 134 [(.tmp 34), (.tmp 38), (.tmp 45)]), none⟩ (.alt false ⟨(some 47), (.pcall 132 [(.tmp 31), (.tmp 33), (.tmp 46)]), none⟩ (.take ⟨(some 27), (.mv (.tmp 47)), none⟩ (.take ⟨(some 48), (.ext 0 (.tmp 27)), none⟩ (.take ⟨(some 49), (.ext 1 (.tmp 27)), none⟩ (.alt false ⟨none, (.stn 3 (.tmp 4) (.tmp 48)), none⟩ (.take ⟨(some 5), (.mv (.tmp 49)), none⟩ .done) .stop)))) .stop) .stop) .stop) .stop)) (.alt false ⟨(some 4), (.alc 116 (.agg #[(.int .i64 0), (.int .i64 0), (.int .i64 0)])), none⟩ (.alt false ⟨(some 44), (.call 133 [(.tmp 43)]), none⟩ (.alt false ⟨(some 45), (.pcall 71 [(.tmp 42), (.tmp 44)]), none⟩ (.alt false ⟨(some 46), (.call 134 [(.tmp 34), (.tmp 38), (.tmp 45)]), none⟩ (.alt false ⟨(some 47), (.pcall 132 [(.tmp 31), (.tmp 33), (.tmp 46)]), none⟩ (.take ⟨(some 27), (.mv (.tmp 47)), none⟩ (.take ⟨(some 48), (.ext 0 (.tmp 27)), none⟩ (.take ⟨(some 49), (.ext 1 (.tmp 27)), none⟩ (.alt false ⟨none, (.stn 3 (.tmp 4) (.tmp 48)), none⟩ (.take ⟨(some 5), (.mv (.tmp 49)), none⟩ .done) .stop)))) .stop) .stop) .stop) .stop) .stop)) (.alt false ⟨(some 4), (.alc 116 (.agg #[(.int .i64 0), (.int .i64 0), (.int .i64 0)])), none⟩ (.alt false ⟨(some 33), (.call 133 [(.tmp 32)]), none⟩ (.alt false ⟨(some 44), (.call 133 [(.tmp 43)]), none⟩ (.alt false ⟨(some 45), (.pcall 71 [(.tmp 42), (.tmp 44)]), none⟩ (.alt false ⟨(some 46), (.call 134 [(.tmp 34), (.tmp 38), (.tmp 45)]), none⟩ (.alt false ⟨(some 47), (.pcall 132 [(.tmp 31), (.tmp 33), (.tmp 46)]), none⟩ (.take ⟨(some 27), (.mv (.tmp 47)), none⟩ (.take ⟨(some 48), (.ext 0 (.tmp 27)), none⟩ (.take ⟨(some 49), (.ext 1 (.tmp 27)), none⟩ (.alt false ⟨none, (.stn 3 (.tmp 4) (.tmp 48)), none⟩ (.take ⟨(some 5), (.mv (.tmp 49)), none⟩ .done) .stop)))) .stop) .stop) .stop) .stop) .stop) .stop))))))))))))))))))
    (.seq (.reg [⟨(some 50), (.mv (.tmp 5)), none⟩, ⟨(some 51), (.mv (.tmp 50)), none⟩, ⟨(some 52), (.fad 0 (.tmp 4)), (some (51, true))⟩, ⟨(some 53), (.ld1 (.tmp 52)), (some (51, true))⟩, ⟨(some 54), (.cmp .eql (.tmp 53) (.const (.int .i64 2))), (some (51, true))⟩, ⟨(some 55), (.pick (.tmp 51) (.tmp 54) (.const (.bool false))), none⟩])
    (.cond (.tmp 55) .no
    (.reg [⟨(some 73), (.mv (.tmp 0)), none⟩, ⟨(some 74), (.call 136 [(.tmp 73)]), none⟩]))))))⟩ := by kernel_rfl

/-- (*allotment/seek.Seeker).Found -/
theorem tr63 : trF Try.prog pures Try.f63 = some
  ⟨22, [(.t 2), (.t 3), (.t 4)],
    (.seq (.reg [⟨(some 2), (.mv (.const (.int .i64 0))), none⟩, ⟨(some 3), (.mv (.const (.int .i64 0))), none⟩, ⟨(some 4), (.mv (.const (.bool false))), none⟩])
    (.seq (.seq
    (.reg [⟨(some 5), (.mv (.tmp 0)), none⟩, ⟨(some 6), (.pnil false (.tmp 5)), none⟩, ⟨(some 7), (.mv (.tmp 6)), none⟩, ⟨(some 8), (.mv (.tmp 0)), (some (7, false))⟩, ⟨(some 9), (.nilck (.tmp 8)), (some (7, false))⟩, ⟨(some 10), (.fad 10 (.tmp 9)), (some (7, false))⟩, ⟨(some 11), (.ld1 (.tmp 10)), (some (7, false))⟩, ⟨(some 12), (.nt (.tmp 11)), (some (7, false))⟩, ⟨(some 13), (.pick (.tmp 7) (.const (.bool true)) (.tmp 12)), none⟩])
    (.cond (.tmp 13)
    (.seq (.reg [⟨(some 2), (.mv (.const (.int .i64 0))), none⟩, ⟨(some 3), (.mv (.const (.int .i64 0))), none⟩, ⟨(some 4), (.mv (.const (.bool false))), none⟩]) .ret) .skip))
    (.seq (.reg [⟨(some 14), (.mv (.tmp 0)), none⟩, ⟨(some 15), (.nilck (.tmp 14)), none⟩, ⟨(some 16), (.fad 8 (.tmp 15)), none⟩, ⟨(some 17), (.ld1 (.tmp 16)), none⟩, ⟨(some 18), (.mv (.tmp 0)), none⟩, ⟨(some 19), (.nilck (.tmp 18)), none⟩, ⟨(some 20), (.fad 9 (.tmp 19)), none⟩, ⟨(some 21), (.ld1 (.tmp 20)), none⟩, ⟨(some 2), (.mv (.tmp 17)), none⟩, ⟨(some 3), (.mv (.tmp 21)), none⟩, ⟨(some 4), (.mv (.const (.bool true))), none⟩]) .ret)))⟩ := by kernel_rfl

/-- (*allotment/seek.Seeker).Done -/
theorem tr64 : trF Try.prog pures Try.f64 = some
  ⟨11, [(.t 2)],
    (.seq (.reg [⟨(some 2), (.mv (.const (.bool false))), none⟩])
    (.seq (.reg [⟨(some 3), (.mv (.tmp 0)), none⟩, ⟨(some 4), (.pnil true (.tmp 3)), none⟩, ⟨(some 5), (.mv (.tmp 4)), none⟩, ⟨(some 6), (.mv (.tmp 0)), (some (5, true))⟩, ⟨(some 7), (.nilck (.tmp 6)), (some (5, true))⟩, ⟨(some 8), (.fad 11 (.tmp 7)), (some (5, true))⟩, ⟨(some 9), (.ld1 (.tmp 8)), (some (5, true))⟩, ⟨(some 10), (.pick (.tmp 5) (.tmp 9) (.const (.bool false))), none⟩, ⟨(some 2), (.mv (.tmp 10)), none⟩]) .ret))⟩ := by kernel_rfl

/-- (*allotment/run.Runner).look -/
theorem tr69 : trF Try.prog pures Try.f69 = some
  ⟨73, [],
    (.seq (.draw (.take ⟨(some 7), (.mv (.tmp 0)), none⟩ (.take ⟨(some 8), (.nilck (.tmp 7)), none⟩ (.take ⟨(some 9), (.fad 0 (.tmp 8)), none⟩ (.take ⟨(some 10), (.ldn 3 (.tmp 9)), none⟩ (.take ⟨(some 11), (.mv (.tmp 0)), none⟩ (.take ⟨(some 12), (.nilck (.tmp 11)), none⟩ (.take ⟨(some 13), (.fad 6 (.tmp 12)), none⟩ (.take ⟨(some 14), (.ld1 (.tmp 13)), none⟩ (.take ⟨(some 15), (.mv (.tmp 1)), none⟩ (.take ⟨(some 16), (.mv (.tmp 0)), none⟩ (.take ⟨(some 17), (.nilck (.tmp 16)), none⟩ (.take ⟨(some 18), (.fad 3 (.tmp 17)), none⟩ (.take ⟨(some 19), (.ld1 (.tmp 18)), none⟩ (.take ⟨(some 20), (.mv (.tmp 0)), none⟩ (.take ⟨(some 21), (.nilck (.tmp 20)), none⟩ (.take ⟨(some 22), (.fad 0 (.tmp 21)), none⟩ (.take ⟨(some 23), (.ldn 3 (.tmp 22)), none⟩ (.take ⟨(some 24), (.mv (.tmp 0)), none⟩ (.take ⟨(some 25), (.nilck (.tmp 24)), none⟩ (.take ⟨(some 26), (.fad 6 (.tmp 25)), none⟩ (.take ⟨(some 27), (.ld1 (.tmp 26)), none⟩ (.alt false ⟨(some 28), (.pcall 71 [(.tmp 23), (.tmp 27)]), none⟩ (.alt false ⟨(some 29), (.call 134 [(.tmp 15), (.tmp 19), (.tmp 28)]), none⟩ (.alt false ⟨(some 30), (.pcall 132 [(.tmp 10), (.tmp 14), (.tmp 29)]), none⟩ (.take ⟨(some 6), (.mv (.tmp 30)), none⟩ (.take ⟨(some 31), (.ext 0 (.tmp 6)), none⟩ (.take ⟨(some 32), (.ext 1 (.tmp 6)), none⟩ (.alt false ⟨(some 4), (.alc 116 (.agg #[(.int .i64 0), (.int .i64 0), (.int .i64 0)])), none⟩ (.alt false ⟨none, (.stn 3 (.tmp 4) (.tmp 31)), none⟩ (.take ⟨(some 5), (.mv (.tmp 32)), none⟩ .done) .stop) .stop)))) (.alt false ⟨(some 4), (.alc 116 (.agg #[(.int .i64 0), (.int .i64 0), (.int .i64 0)])), none⟩ (.alt false ⟨(some 30), (.pcall 132 [(.tmp 10), (.tmp 14), (.tmp 29)]), none⟩ (.take ⟨(some 6), (.mv (.tmp 30)), none⟩ (.take ⟨(some 31), (.ext 0 (.tmp 6)), none⟩ (.take ⟨(some 32), (.ext 1 (.tmp 6)), none⟩ (.alt false ⟨none, (.stn 3 (.tmp 4) (.tmp 31)), none⟩ (.take ⟨(some 5), (.mv (.tmp 32)), none⟩ .done) .stop)))) .stop) .stop)) (.alt false ⟨(some 4), (.alc 116 (.agg #[(.int .i64 0), (.int .i64 0), (.int .i64 0)])), none⟩ (.alt false ⟨(some 29), (.call 134 [(.tmp 15), (.tmp 19), (.tmp 28)]), none⟩ (.alt false ⟨(some 30), (.pcall 132 [(.tmp 10), (.tmp 14), (.tmp 29)]), none⟩ (.take ⟨(some 6), (.mv (.tmp 30)), none⟩ (.take ⟨(some 31), (.ext 0 (.tmp 6)), none⟩ (.take ⟨(some 32), (.ext 1 (.tmp 6)), none⟩ (.alt false ⟨none, (.stn 3 (.tmp 4) (.tmp 31)), none⟩ (.take ⟨(some 5), (.mv (.tmp 32)), none⟩ .done) .stop)))) .stop) .stop) .stop)) (.alt false ⟨(some 4), (.alc 116 (.agg #[(.int .i64 0), (.int .i64 0), (.int .i64 0)])), none⟩ (.alt false ⟨(some 28), (.pcall 71 [(.tmp 23), (.tmp 27)]), none⟩ (.alt false ⟨(some 29), (.call 134 [(.tmp 15), (.tmp 19), (.tmp 28)]), none⟩ (.alt false ⟨(some 30), (.pcall 132 [(.tmp 10), (.tmp 14), (.tmp 29)]), none⟩ (.take ⟨(some 6), (.mv (.tmp 30)), none⟩ (.take ⟨(some 31), (.ext 0 (.tmp 6)), none⟩ (.take ⟨(some 32), (.ext 1 (.tmp 6)), none⟩ (.alt false ⟨none, (.stn 3 (.tmp 4) (.tmp 31)), none⟩ (.take ⟨(some 5), (.mv (.tmp 32)), none⟩ .done) .stop)))) .stop) .stop) .stop) .stop))))))))))))))))))))))))
    (.block 0
    (.seq (.reg [⟨(some 36), (.mv (.tmp 5)), none⟩, ⟨(some 37), (.mv (.tmp 36)), none⟩, ⟨(some 38), (.fad 0 (.tmp 4)), (some (37, true))⟩, ⟨(some 39), (.ld1 (.tmp 38)), (some (37, true))⟩, ⟨(some 40), (.cmp .eql (.tmp 39) (.const (.int .i64 0))), (some (37, true))⟩, ⟨(some 41), (.pick (.tmp 37) (.tmp 40) (.const (.bool false))), none⟩, ⟨(some 35), (.mv (.tmp 41)), none⟩])
    (.cond (.tmp 35)
    (.reg [⟨(some 42), (.mv (.tmp 0)), none⟩, ⟨(some 43), (.nilck (.tmp 42)), none⟩, ⟨(some 44), (.fad 8 (.tmp 43)), none⟩, ⟨none, (.st1 (.tmp 44) (.const (.int .i64 1))), none⟩])
    (.seq (.reg [⟨(some 46), (.mv (.tmp 5)), none⟩, ⟨(some 47), (.mv (.tmp 46)), none⟩, ⟨(some 48), (.fad 0 (.tmp 4)), (some (47, true))⟩, ⟨(some 49), (.ld1 (.tmp 48)), (some (47, true))⟩, ⟨(some 50), (.cmp .eql (.tmp 49) (.const (.int .i64 2))), (some (47, true))⟩, ⟨(some 51), (.pick (.tmp 47) (.tmp 50) (.const (.bool false))), none⟩, ⟨(some 45), (.mv (.tmp 51)), none⟩])
    (.cond (.tmp 45)
    (.draw (.take ⟨(some 52), (.mv (.tmp 0)), none⟩ (.take ⟨(some 53), (.mv (.tmp 0)), none⟩ (.take ⟨(some 54), (.mv (.tmp 0)), none⟩ (.take ⟨(some 55), (.nilck (.tmp 54)), none⟩ (.take ⟨(some 56), (.fad 0 (.tmp 55)), none⟩ (.take ⟨(some 57), (.ldn 3 (.tmp 56)), none⟩ (.take ⟨(some 58), (.mv (.tmp 0)), none⟩ (.take ⟨(some 59), (.nilck (.tmp 58)), none⟩ (.take ⟨(some 60), (.fad 3 (.tmp 59)), none⟩ (.take ⟨(some 61), (.ld1 (.tmp 60)), none⟩ (.take ⟨(some 62), (.mv (.tmp 0)), none⟩ (.take ⟨(some 63), (.nilck (.tmp 62)), none⟩ (.take ⟨(some 64), (.fad 6 (.tmp 63)), none⟩ (.take ⟨(some 65), (.ld1 (.tmp 64)), none⟩ (.take ⟨(some 66), (.fad 1 (.tmp 4)), none⟩ (.take ⟨(some 67), (.ld1 (.tmp 66)), none⟩ (.alt false ⟨(some 68), (.call 135 [(.tmp 57), (.tmp 61), (.tmp 65), (.tmp 67)]), none⟩ (.take ⟨(some 69), (.nilck (.tmp 52)), none⟩ (.take ⟨(some 70), (.fad 8 (.tmp 69)), none⟩ (.alt false ⟨none, (.st1 (.tmp 70) (.const (.int .i64 2))), none⟩ (.take ⟨(some 71), (.nilck (.tmp 53)), none⟩ (.take ⟨(some 72), (.fad 9 (.tmp 71)), none⟩ (.alt true ⟨none, (.st1 (.tmp 72) (.tmp 68)), none⟩ .done .stop))) .stop))) .stop))))))))))))))))))
    (.reg [⟨(some 33), (.mv (.tmp 0)), none⟩, ⟨(some 34), (.call 74 [(.tmp 33)]), none⟩])))))))⟩ := by kernel_rfl

/-- (*allotment/run.Runner).own -/
theorem tr73 : trF Try.prog pures Try.f73 = some
  ⟨38, [],
    (.seq (.reg [⟨(some 2), (.mv (.tmp 0)), none⟩, ⟨(some 3), (.nilck (.tmp 2)), none⟩, ⟨(some 4), (.fad 6 (.tmp 3)), none⟩, ⟨(some 5), (.ld1 (.tmp 4)), none⟩, ⟨(some 6), (.ar .add (.tmp 5) (.const (.int .i64 1))), none⟩, ⟨(some 7), (.nilck (.tmp 2)), none⟩, ⟨(some 8), (.fad 6 (.tmp 7)), none⟩, ⟨none, (.st1 (.tmp 8) (.tmp 6)), none⟩])
    (.seq (.reg [⟨(some 9), (.mv (.tmp 0)), none⟩, ⟨(some 10), (.nilck (.tmp 9)), none⟩, ⟨(some 11), (.fad 8 (.tmp 10)), none⟩, ⟨none, (.st1 (.tmp 11) (.const (.int .i64 0))), none⟩])
    (.seq (.reg [⟨(some 12), (.mv (.tmp 0)), none⟩, ⟨(some 13), (.nilck (.tmp 12)), none⟩, ⟨(some 14), (.fad 6 (.tmp 13)), none⟩, ⟨(some 15), (.ld1 (.tmp 14)), none⟩, ⟨(some 16), (.mv (.tmp 0)), none⟩, ⟨(some 17), (.nilck (.tmp 16)), none⟩, ⟨(some 18), (.fad 5 (.tmp 17)), none⟩, ⟨(some 19), (.ld1 (.tmp 18)), none⟩, ⟨(some 20), (.mv (.tmp 0)), none⟩, ⟨(some 21), (.nilck (.tmp 20)), none⟩, ⟨(some 22), (.fad 4 (.tmp 21)), none⟩, ⟨(some 23), (.ld1 (.tmp 22)), none⟩, ⟨(some 24), (.ar .add (.tmp 19) (.tmp 23)), none⟩, ⟨(some 25), (.cmp .eql (.tmp 15) (.tmp 24)), none⟩])
    (.cond (.tmp 25)
    (.seq (.reg [⟨(some 26), (.mv (.tmp 0)), none⟩, ⟨(some 27), (.mv (.tmp 0)), none⟩, ⟨(some 28), (.mv (.tmp 0)), none⟩, ⟨(some 29), (.nilck (.tmp 28)), none⟩, ⟨(some 30), (.fad 5 (.tmp 29)), none⟩, ⟨(some 31), (.ld1 (.tmp 30)), none⟩, ⟨(some 32), (.nilck (.tmp 26)), none⟩, ⟨(some 33), (.fad 8 (.tmp 32)), none⟩, ⟨none, (.st1 (.tmp 33) (.const (.int .i64 5))), none⟩, ⟨(some 34), (.nilck (.tmp 27)), none⟩, ⟨(some 35), (.fad 7 (.tmp 34)), none⟩, ⟨none, (.st1 (.tmp 35) (.tmp 31)), none⟩])
    (.reg [⟨(some 36), (.mv (.tmp 0)), none⟩, ⟨(some 37), (.call 82 [(.tmp 36)]), none⟩])) .skip))))⟩ := by kernel_rfl

/-- (*allotment/run.Runner).miss -/
theorem tr74 : trF Try.prog pures Try.f74 = some
  ⟨14, [],
    (.seq (.reg [⟨(some 2), (.mv (.tmp 0)), none⟩, ⟨(some 3), (.mv (.tmp 0)), none⟩, ⟨(some 4), (.mv (.tmp 0)), none⟩, ⟨(some 5), (.nilck (.tmp 4)), none⟩, ⟨(some 6), (.fad 6 (.tmp 5)), none⟩, ⟨(some 7), (.ld1 (.tmp 6)), none⟩, ⟨(some 8), (.nilck (.tmp 2)), none⟩, ⟨(some 9), (.fad 8 (.tmp 8)), none⟩, ⟨none, (.st1 (.tmp 9) (.const (.int .i64 4))), none⟩, ⟨(some 10), (.nilck (.tmp 3)), none⟩, ⟨(some 11), (.fad 7 (.tmp 10)), none⟩, ⟨none, (.st1 (.tmp 11) (.tmp 7)), none⟩])
    (.reg [⟨(some 12), (.mv (.tmp 0)), none⟩, ⟨(some 13), (.call 81 [(.tmp 12)]), none⟩]))⟩ := by kernel_rfl

/-- (*allotment/run.Runner).set -/
theorem tr80 : trF Try.prog pures Try.f80 = some
  ⟨22, [],
    (.seq (.reg [⟨(some 7), (.box 116 (.tmp 3)), none⟩])
    (.draw (.take ⟨(some 8), (.mv (.tmp 1)), none⟩ (.take ⟨(some 9), (.mv (.tmp 0)), none⟩ (.take ⟨(some 10), (.nilck (.tmp 9)), none⟩ (.take ⟨(some 11), (.fad 3 (.tmp 10)), none⟩ (.take ⟨(some 12), (.ld1 (.tmp 11)), none⟩ (.take ⟨(some 13), (.mv (.tmp 0)), none⟩ (.take ⟨(some 14), (.nilck (.tmp 13)), none⟩ (.take ⟨(some 15), (.fad 0 (.tmp 14)), none⟩ (.take ⟨(some 16), (.ldn 3 (.tmp 15)), none⟩ (.take ⟨(some 17), (.mv (.tmp 2)), none⟩ (.take ⟨(some 19), (.ldn 3 (.tmp 7)), none⟩ (.alt false ⟨(some 18), (.pcall 71 [(.tmp 16), (.tmp 17)]), none⟩ (.alt false ⟨(some 20), (.pcall 72 [(.tmp 19)]), none⟩ (.alt true ⟨(some 21), (.call 78 [(.tmp 8), (.tmp 12), (.tmp 18), (.tmp 20)]), none⟩ .done .stop) .stop) .stop))))))))))))))⟩ := by kernel_rfl

/-- (*allotment/run.Runner).gone -/
theorem tr81 : trF Try.prog pures Try.f81 = some
  ⟨46, [],
    (.seq (.seq
    (.reg [⟨(some 2), (.mv (.tmp 0)), none⟩, ⟨(some 3), (.nilck (.tmp 2)), none⟩, ⟨(some 4), (.fad 7 (.tmp 3)), none⟩, ⟨(some 5), (.ld1 (.tmp 4)), none⟩, ⟨(some 6), (.mv (.tmp 0)), none⟩, ⟨(some 7), (.nilck (.tmp 6)), none⟩, ⟨(some 8), (.fad 5 (.tmp 7)), none⟩, ⟨(some 9), (.ld1 (.tmp 8)), none⟩, ⟨(some 10), (.cmp .gtr (.tmp 5) (.tmp 9)), none⟩])
    (.cond (.tmp 10) .ret .skip))
    (.seq (.reg [⟨(some 11), (.mv (.tmp 0)), none⟩, ⟨(some 12), (.nilck (.tmp 11)), none⟩, ⟨(some 13), (.fad 6 (.tmp 12)), none⟩, ⟨(some 14), (.ld1 (.tmp 13)), none⟩, ⟨(some 15), (.ar .add (.tmp 14) (.const (.int .i64 1))), none⟩, ⟨(some 16), (.nilck (.tmp 11)), none⟩, ⟨(some 17), (.fad 6 (.tmp 16)), none⟩, ⟨none, (.st1 (.tmp 17) (.tmp 15)), none⟩])
    (.seq (.reg [⟨(some 18), (.mv (.tmp 0)), none⟩, ⟨(some 19), (.mv (.tmp 0)), none⟩, ⟨(some 20), (.mv (.tmp 0)), none⟩, ⟨(some 21), (.nilck (.tmp 20)), none⟩, ⟨(some 22), (.fad 6 (.tmp 21)), none⟩, ⟨(some 23), (.ld1 (.tmp 22)), none⟩, ⟨(some 24), (.nilck (.tmp 18)), none⟩, ⟨(some 25), (.fad 5 (.tmp 24)), none⟩, ⟨none, (.st1 (.tmp 25) (.tmp 23)), none⟩, ⟨(some 26), (.nilck (.tmp 19)), none⟩, ⟨(some 27), (.fad 8 (.tmp 26)), none⟩, ⟨none, (.st1 (.tmp 27) (.const (.int .i64 0))), none⟩])
    (.draw (.take ⟨(some 28), (.mv (.tmp 0)), none⟩ (.take ⟨(some 29), (.mv (.tmp 0)), none⟩ (.take ⟨(some 30), (.nilck (.tmp 29)), none⟩ (.take ⟨(some 31), (.fad 5 (.tmp 30)), none⟩ (.take ⟨(some 32), (.ld1 (.tmp 31)), none⟩ (.take ⟨(some 33), (.mv (.tmp 0)), none⟩ (.take ⟨(some 34), (.nilck (.tmp 33)), none⟩ (.take ⟨(some 35), (.fad 0 (.tmp 34)), none⟩ (.take ⟨(some 36), (.fad 0 (.tmp 35)), none⟩ (.take ⟨(some 37), (.ld1 (.tmp 36)), none⟩ (.take ⟨(some 38), (.mv (.tmp 0)), none⟩ (.take ⟨(some 39), (.nilck (.tmp 38)), none⟩ (.take ⟨(some 40), (.fad 4 (.tmp 39)), none⟩ (.take ⟨(some 41), (.ld1 (.tmp 40)), none⟩ (.take ⟨(some 42), (.ar .sub (.tmp 37) (.tmp 41)), none⟩ (.take ⟨(some 43), (.cmp .gtr (.tmp 32) (.tmp 42)), none⟩ (.take ⟨(some 44), (.nilck (.tmp 28)), none⟩ (.take ⟨(some 45), (.fad 11 (.tmp 44)), none⟩ (.alt true ⟨none, (.st1 (.tmp 45) (.tmp 43)), none⟩ .done .stop)))))))))))))))))))))))⟩ := by kernel_rfl

/-- (*allotment/run.Runner).written -/
theorem tr82 : trF Try.prog pures Try.f82 = some
  ⟨29, [],
    (.seq (.reg [⟨(some 2), (.mv (.tmp 0)), none⟩, ⟨(some 3), (.nilck (.tmp 2)), none⟩, ⟨(some 4), (.fad 7 (.tmp 3)), none⟩, ⟨(some 5), (.ld1 (.tmp 4)), none⟩, ⟨(some 6), (.ar .add (.tmp 5) (.const (.int .i64 1))), none⟩, ⟨(some 7), (.nilck (.tmp 2)), none⟩, ⟨(some 8), (.fad 7 (.tmp 7)), none⟩, ⟨none, (.st1 (.tmp 8) (.tmp 6)), none⟩])
    (.seq (.reg [⟨(some 9), (.mv (.tmp 0)), none⟩, ⟨(some 10), (.nilck (.tmp 9)), none⟩, ⟨(some 11), (.fad 7 (.tmp 10)), none⟩, ⟨(some 12), (.ld1 (.tmp 11)), none⟩, ⟨(some 13), (.mv (.tmp 0)), none⟩, ⟨(some 14), (.nilck (.tmp 13)), none⟩, ⟨(some 15), (.fad 5 (.tmp 14)), none⟩, ⟨(some 16), (.ld1 (.tmp 15)), none⟩, ⟨(some 17), (.mv (.tmp 0)), none⟩, ⟨(some 18), (.nilck (.tmp 17)), none⟩, ⟨(some 19), (.fad 4 (.tmp 18)), none⟩, ⟨(some 20), (.ld1 (.tmp 19)), none⟩, ⟨(some 21), (.ar .add (.tmp 16) (.tmp 20)), none⟩, ⟨(some 22), (.cmp .eql (.tmp 12) (.tmp 21)), none⟩])
    (.cond (.tmp 22)
    (.reg [⟨(some 23), (.mv (.tmp 0)), none⟩, ⟨(some 24), (.mv (.tmp 0)), none⟩, ⟨(some 25), (.nilck (.tmp 23)), none⟩, ⟨(some 26), (.fad 10 (.tmp 25)), none⟩, ⟨none, (.st1 (.tmp 26) (.const (.bool true))), none⟩, ⟨(some 27), (.nilck (.tmp 24)), none⟩, ⟨(some 28), (.fad 11 (.tmp 27)), none⟩, ⟨none, (.st1 (.tmp 28) (.const (.bool true))), none⟩]) .skip)))⟩ := by kernel_rfl

/-- (*allotment/give.Freer).look -/
theorem tr85 : trF Try.prog pures Try.f85 = some
  ⟨100, [],
    (.seq (.reg [⟨(some 10), (.mv (.tmp 0)), none⟩, ⟨(some 11), (.nilck (.tmp 10)), none⟩, ⟨(some 12), (.fad 0 (.tmp 11)), none⟩, ⟨(some 13), (.ldn 3 (.tmp 12)), none⟩, ⟨(some 14), (.mv (.tmp 0)), none⟩, ⟨(some 15), (.nilck (.tmp 14)), none⟩, ⟨(some 16), (.fad 4 (.tmp 15)), none⟩, ⟨(some 17), (.ld1 (.tmp 16)), none⟩, ⟨(some 18), (.pcall 84 [(.tmp 13), (.tmp 17)]), none⟩, ⟨(some 9), (.mv (.tmp 18)), none⟩, ⟨(some 19), (.ext 0 (.tmp 9)), none⟩, ⟨(some 20), (.ext 1 (.tmp 9)), none⟩, ⟨(some 21), (.ext 2 (.tmp 9)), none⟩, ⟨(some 4), (.mv (.tmp 19)), none⟩, ⟨(some 5), (.mv (.tmp 20)), none⟩, ⟨(some 6), (.mv (.tmp 21)), none⟩])
    (.seq (.draw (.take ⟨(some 22), (.mv (.tmp 0)), none⟩ (.take ⟨(some 23), (.mv (.tmp 1)), none⟩ (.take ⟨(some 24), (.mv (.tmp 0)), none⟩ (.take ⟨(some 25), (.nilck (.tmp 24)), none⟩ (.take ⟨(some 26), (.fad 3 (.tmp 25)), none⟩ (.take ⟨(some 27), (.ld1 (.tmp 26)), none⟩ (.take ⟨(some 28), (.mv (.tmp 0)), none⟩ (.take ⟨(some 29), (.nilck (.tmp 28)), none⟩ (.take ⟨(some 30), (.fad 0 (.tmp 29)), none⟩ (.take ⟨(some 31), (.ldn 3 (.tmp 30)), none⟩ (.take ⟨(some 32), (.mv (.tmp 0)), none⟩ (.take ⟨(some 33), (.nilck (.tmp 32)), none⟩ (.take ⟨(some 34), (.fad 5 (.tmp 33)), none⟩ (.take ⟨(some 35), (.ld1 (.tmp 34)), none⟩ (.alt false ⟨(some 36), (.pcall 71 [(.tmp 31), (.tmp 35)]), none⟩ (.alt false ⟨(some 37), (.call 134 [(.tmp 23), (.tmp 27), (.tmp 36)]), none⟩ (.take ⟨(some 38), (.nilck (.tmp 22)), none⟩ (.take ⟨(some 39), (.fad 7 (.tmp 38)), none⟩ (.alt true ⟨none, (.st1 (.tmp 39) (.tmp 37)), none⟩ .done .stop))) .stop) .stop))))))))))))))))
    (.seq (.draw (.take ⟨(some 41), (.mv (.tmp 0)), none⟩ (.take ⟨(some 42), (.nilck (.tmp 41)), none⟩ (.take ⟨(some 43), (.fad 0 (.tmp 42)), none⟩ (.take ⟨(some 44), (.ldn 3 (.tmp 43)), none⟩ (.take ⟨(some 45), (.mv (.tmp 0)), none⟩ (.take ⟨(some 46), (.nilck (.tmp 45)), none⟩ (.take ⟨(some 47), (.fad 5 (.tmp 46)), none⟩ (.take ⟨(some 48), (.ld1 (.tmp 47)), none⟩ (.take ⟨(some 49), (.mv (.tmp 0)), none⟩ (.take ⟨(some 50), (.nilck (.tmp 49)), none⟩ (.take ⟨(some 51), (.fad 7 (.tmp 50)), none⟩ (.take ⟨(some 52), (.ld1 (.tmp 51)), none⟩ (.alt false ⟨(some 53), (.pcall 132 [(.tmp 44), (.tmp 48), (.tmp 52)]), none⟩ (.take ⟨(some 40), (.mv (.tmp 53)), none⟩ (.take ⟨(some 54), (.ext 0 (.tmp 40)), none⟩ (.take ⟨(some 55), (.ext 1 (.tmp 40)), none⟩ (.alt false ⟨(some 7), (.alc 116 (.agg #[(.int .i64 0), (.int .i64 0), (.int .i64 0)])), none⟩ (.alt false ⟨none, (.stn 3 (.tmp 7) (.tmp 54)), none⟩ (.take ⟨(some 8), (.mv (.tmp 55)), none⟩ .done) .stop) .stop)))) (.alt false ⟨(some 7), (.alc 116 (.agg #[(.int .i64 0), (.int .i64 0), (.int .i64 0)])), none⟩ (.alt false ⟨(some 53), (.pcall 132 [(.tmp 44), (.tmp 48), (.tmp 52)]), none⟩ (.take ⟨(some 40), (.mv (.tmp 53)), none⟩ (.take ⟨(some 54), (.ext 0 (.tmp 40)), none⟩ (.take ⟨(some 55), (.ext 1 (.tmp 40)), none⟩ (.alt false ⟨none, (.stn 3 (.tmp 7) (.tmp 54)), none⟩ (.take ⟨(some 8), (.mv (.tmp 55)), none⟩ .done) .stop)))) .stop) .stop)))))))))))))))
    (.seq (.reg [⟨(some 56), (.mv (.tmp 0)), none⟩, ⟨(some 57), (.mv (.tmp 0)), none⟩, ⟨(some 58), (.ldn 3 (.tmp 7)), none⟩, ⟨(some 59), (.nilck (.tmp 56)), none⟩, ⟨(some 60), (.fad 8 (.tmp 59)), none⟩, ⟨none, (.stn 3 (.tmp 60) (.tmp 58)), none⟩, ⟨(some 61), (.nilck (.tmp 57)), none⟩, ⟨(some 62), (.fad 11 (.tmp 61)), none⟩, ⟨none, (.st1 (.tmp 62) (.const (.int .i64 1))), none⟩])
    (.block 0
    (.seq (.reg [⟨(some 67), (.mv (.tmp 8)), none⟩, ⟨(some 68), (.mv (.tmp 67)), none⟩, ⟨(some 69), (.fad 0 (.tmp 7)), (some (68, true))⟩, ⟨(some 70), (.ld1 (.tmp 69)), (some (68, true))⟩, ⟨(some 71), (.cmp .eql (.tmp 70) (.const (.int .i64 3))), (some (68, true))⟩, ⟨(some 72), (.pick (.tmp 68) (.tmp 71) (.const (.bool false))), none⟩, ⟨(some 73), (.mv (.tmp 72)), none⟩, ⟨(some 74), (.mv (.tmp 5)), (some (73, true))⟩, ⟨(some 75), (.cmp .eql (.tmp 74) (.const (.int .i64 0))), (some (73, true))⟩, ⟨(some 76), (.pick (.tmp 73) (.tmp 75) (.const (.bool false))), none⟩, ⟨(some 66), (.mv (.tmp 76)), none⟩])
    (.cond (.tmp 66) .skip
    (.seq (.reg [⟨(some 78), (.mv (.tmp 8)), none⟩, ⟨(some 79), (.mv (.tmp 78)), none⟩, ⟨(some 80), (.fad 0 (.tmp 7)), (some (79, true))⟩, ⟨(some 81), (.ld1 (.tmp 80)), (some (79, true))⟩, ⟨(some 82), (.cmp .eql (.tmp 81) (.const (.int .i64 2))), (some (79, true))⟩, ⟨(some 83), (.pick (.tmp 79) (.tmp 82) (.const (.bool false))), none⟩, ⟨(some 84), (.mv (.tmp 83)), none⟩, ⟨(some 85), (.mv (.tmp 5)), (some (84, true))⟩, ⟨(some 86), (.fad 1 (.tmp 7)), (some (84, true))⟩, ⟨(some 87), (.ld1 (.tmp 86)), (some (84, true))⟩, ⟨(some 88), (.pcall 142 [(.tmp 87)]), (some (84, true))⟩, ⟨(some 89), (.dv .rem (.tmp 85) (.tmp 88)), (some (84, true))⟩, ⟨(some 90), (.cmp .eql (.tmp 89) (.const (.int .i64 0))), (some (84, true))⟩, ⟨(some 91), (.pick (.tmp 84) (.tmp 90) (.const (.bool false))), none⟩, ⟨(some 77), (.mv (.tmp 91)), none⟩])
    (.cond (.tmp 77)
    (.reg [⟨(some 92), (.mv (.tmp 0)), none⟩, ⟨(some 93), (.mv (.tmp 5)), none⟩, ⟨(some 94), (.fad 1 (.tmp 7)), none⟩, ⟨(some 95), (.ld1 (.tmp 94)), none⟩, ⟨(some 96), (.pcall 142 [(.tmp 95)]), none⟩, ⟨(some 97), (.dv .quo (.tmp 93) (.tmp 96)), none⟩, ⟨(some 98), (.nilck (.tmp 92)), none⟩, ⟨(some 99), (.fad 6 (.tmp 98)), none⟩, ⟨none, (.st1 (.tmp 99) (.tmp 97)), none⟩])
    (.reg [⟨(some 63), (.mv (.tmp 0)), none⟩, ⟨(some 64), (.nilck (.tmp 63)), none⟩, ⟨(some 65), (.fad 15 (.tmp 64)), none⟩, ⟨none, (.st1 (.tmp 65) (.const (.bool true))), none⟩]))))))))))⟩ := by kernel_rfl

/-- (*allotment/give.Freer).claim -/
theorem tr86 : trF Try.prog pures Try.f86 = some
  ⟨129, [],
    (.seq (.seq
    (.reg [⟨(some 5), (.mv (.tmp 0)), none⟩, ⟨(some 6), (.nilck (.tmp 5)), none⟩, ⟨(some 7), (.fad 8 (.tmp 6)), none⟩, ⟨(some 8), (.fad 0 (.tmp 7)), none⟩, ⟨(some 9), (.ld1 (.tmp 8)), none⟩, ⟨(some 10), (.cmp .eql (.tmp 9) (.const (.int .i64 3))), none⟩])
    (.cond (.tmp 10)
    (.seq (.draw (.take ⟨(some 11), (.mv (.tmp 0)), none⟩ (.take ⟨(some 12), (.mv (.tmp 1)), none⟩ (.take ⟨(some 13), (.mv (.tmp 0)), none⟩ (.take ⟨(some 14), (.nilck (.tmp 13)), none⟩ (.take ⟨(some 15), (.fad 3 (.tmp 14)), none⟩ (.take ⟨(some 16), (.ld1 (.tmp 15)), none⟩ (.take ⟨(some 17), (.mv (.tmp 0)), none⟩ (.take ⟨(some 18), (.nilck (.tmp 17)), none⟩ (.take ⟨(some 19), (.fad 0 (.tmp 18)), none⟩ (.take ⟨(some 20), (.ldn 3 (.tmp 19)), none⟩ (.take ⟨(some 21), (.mv (.tmp 0)), none⟩ (.take ⟨(some 22), (.nilck (.tmp 21)), none⟩ (.take ⟨(some 23), (.fad 5 (.tmp 22)), none⟩ (.take ⟨(some 24), (.ld1 (.tmp 23)), none⟩ (.take ⟨(some 26), (.mv (.tmp 0)), none⟩ (.take ⟨(some 27), (.nilck (.tmp 26)), none⟩ (.take ⟨(some 28), (.fad 7 (.tmp 27)), none⟩ (.take ⟨(some 29), (.ld1 (.tmp 28)), none⟩ (.take ⟨(some 30), (.mv (.tmp 0)), none⟩ (.take ⟨(some 31), (.nilck (.tmp 30)), none⟩ (.take ⟨(some 32), (.fad 3 (.tmp 31)), none⟩ (.take ⟨(some 33), (.ld1 (.tmp 32)), none⟩ (.take ⟨(some 34), (.bld #[(.int .i64 0), (.int .i64 0), (.int .i64 0)] [(0, (1, (.const (.int .i64 1)))), (1, (1, (.tmp 33)))]), none⟩ (.alt false ⟨(some 25), (.pcall 71 [(.tmp 20), (.tmp 24)]), none⟩ (.alt false ⟨(some 35), (.pcall 72 [(.tmp 34)]), none⟩ (.alt false ⟨(some 36), (.call 70 [(.tmp 12), (.tmp 16), (.tmp 25), (.tmp 29), (.tmp 35)]), none⟩ (.take ⟨(some 37), (.nilck (.tmp 11)), none⟩ (.take ⟨(some 38), (.fad 14 (.tmp 37)), none⟩ (.alt true ⟨none, (.st1 (.tmp 38) (.tmp 36)), none⟩ .done .stop))) .stop) .stop) .stop)))))))))))))))))))))))))
    (.reg [⟨(some 39), (.mv (.tmp 0)), none⟩, ⟨(some 40), (.nilck (.tmp 39)), none⟩, ⟨(some 41), (.fad 11 (.tmp 40)), none⟩, ⟨none, (.st1 (.tmp 41) (.const (.int .i64 4))), none⟩]))
    (.seq (.reg [⟨(some 42), (.mv (.tmp 0)), none⟩, ⟨(some 43), (.nilck (.tmp 42)), none⟩, ⟨(some 44), (.fad 8 (.tmp 43)), none⟩, ⟨(some 45), (.fad 1 (.tmp 44)), none⟩, ⟨(some 46), (.ld1 (.tmp 45)), none⟩, ⟨(some 47), (.bld #[(.int .i64 0), (.int .i64 0)] [(0, (1, (.const (.int .i64 3)))), (1, (1, (.tmp 46)))]), none⟩, ⟨(some 48), (.pcall 89 [(.tmp 47)]), none⟩, ⟨(some 4), (.mv (.tmp 48)), none⟩])
    (.seq (.draw (.take ⟨(some 49), (.mv (.tmp 0)), none⟩ (.take ⟨(some 50), (.mv (.tmp 1)), none⟩ (.take ⟨(some 51), (.mv (.tmp 0)), none⟩ (.take ⟨(some 52), (.nilck (.tmp 51)), none⟩ (.take ⟨(some 53), (.fad 3 (.tmp 52)), none⟩ (.take ⟨(some 54), (.ld1 (.tmp 53)), none⟩ (.take ⟨(some 55), (.mv (.tmp 0)), none⟩ (.take ⟨(some 56), (.nilck (.tmp 55)), none⟩ (.take ⟨(some 57), (.fad 0 (.tmp 56)), none⟩ (.take ⟨(some 58), (.ldn 3 (.tmp 57)), none⟩ (.take ⟨(some 59), (.mv (.tmp 0)), none⟩ (.take ⟨(some 60), (.nilck (.tmp 59)), none⟩ (.take ⟨(some 61), (.fad 5 (.tmp 60)), none⟩ (.take ⟨(some 62), (.ld1 (.tmp 61)), none⟩ (.take ⟨(some 63), (.mv (.tmp 0)), none⟩ (.take ⟨(some 64), (.nilck (.tmp 63)), none⟩ (.take ⟨(some 65), (.fad 6 (.tmp 64)), none⟩ (.take ⟨(some 66), (.ld1 (.tmp 65)), none⟩ (.take ⟨(some 68), (.mv (.tmp 4)), none⟩ (.take ⟨(some 69), (.mv (.tmp 0)), none⟩ (.take ⟨(some 70), (.nilck (.tmp 69)), none⟩ (.take ⟨(some 71), (.fad 3 (.tmp 70)), none⟩ (.take ⟨(some 72), (.ld1 (.tmp 71)), none⟩ (.take ⟨(some 73), (.bld #[(.int .i64 0), (.int .i64 0)] [(0, (1, (.const (.int .i64 2)))), (1, (1, (.tmp 72)))]), none⟩ (.alt false ⟨(some 67), (.pcall 79 [(.tmp 58), (.tmp 62), (.tmp 66)]), none⟩ (.alt false ⟨(some 74), (.pcall 89 [(.tmp 73)]), none⟩ (.alt false ⟨(some 75), (.call 70 [(.tmp 50), (.tmp 54), (.tmp 67), (.tmp 68), (.tmp 74)]), none⟩ (.take ⟨(some 76), (.nilck (.tmp 49)), none⟩ (.take ⟨(some 77), (.fad 14 (.tmp 76)), none⟩ (.alt true ⟨none, (.st1 (.tmp 77) (.tmp 75)), none⟩ .done .stop))) .stop) .stop) .stop))))))))))))))))))))))))))
    (.seq (.reg [⟨(some 78), (.mv (.tmp 0)), none⟩, ⟨(some 79), (.nilck (.tmp 78)), none⟩, ⟨(some 80), (.fad 11 (.tmp 79)), none⟩, ⟨none, (.st1 (.tmp 80) (.const (.int .i64 3))), none⟩])
    (.seq (.reg [⟨(some 81), (.mv (.tmp 0)), none⟩, ⟨(some 82), (.nilck (.tmp 81)), none⟩, ⟨(some 83), (.fad 8 (.tmp 82)), none⟩, ⟨(some 84), (.fad 2 (.tmp 83)), none⟩, ⟨(some 85), (.ld1 (.tmp 84)), none⟩, ⟨(some 86), (.mv (.tmp 0)), none⟩, ⟨(some 87), (.nilck (.tmp 86)), none⟩, ⟨(some 88), (.fad 3 (.tmp 87)), none⟩, ⟨(some 89), (.ld1 (.tmp 88)), none⟩, ⟨(some 90), (.cmp .eql (.tmp 85) (.tmp 89)), none⟩])
    (.cond (.tmp 90)
    (.seq (.draw (.take ⟨(some 91), (.mv (.tmp 0)), none⟩ (.take ⟨(some 92), (.mv (.tmp 0)), none⟩ (.take ⟨(some 93), (.nilck (.tmp 92)), none⟩ (.take ⟨(some 94), (.fad 0 (.tmp 93)), none⟩ (.take ⟨(some 95), (.ldn 3 (.tmp 94)), none⟩ (.take ⟨(some 96), (.mv (.tmp 0)), none⟩ (.take ⟨(some 97), (.nilck (.tmp 96)), none⟩ (.take ⟨(some 98), (.fad 3 (.tmp 97)), none⟩ (.take ⟨(some 99), (.ld1 (.tmp 98)), none⟩ (.take ⟨(some 100), (.mv (.tmp 0)), none⟩ (.take ⟨(some 101), (.nilck (.tmp 100)), none⟩ (.take ⟨(some 102), (.fad 5 (.tmp 101)), none⟩ (.take ⟨(some 103), (.ld1 (.tmp 102)), none⟩ (.take ⟨(some 104), (.mv (.tmp 0)), none⟩ (.take ⟨(some 105), (.nilck (.tmp 104)), none⟩ (.take ⟨(some 106), (.fad 6 (.tmp 105)), none⟩ (.take ⟨(some 107), (.ld1 (.tmp 106)), none⟩ (.take ⟨(some 108), (.mv (.tmp 0)), none⟩ (.take ⟨(some 109), (.nilck (.tmp 108)), none⟩ (.take ⟨(some 110), (.fad 8 (.tmp 109)), none⟩ (.take ⟨(some 111), (.fad 1 (.tmp 110)), none⟩ (.take ⟨(some 112), (.ld1 (.tmp 111)), none⟩ (.alt false ⟨(some 113), (.call 143 [(.tmp 95), (.tmp 99), (.tmp 103), (.tmp 107), (.tmp 112)]), none⟩ (.take ⟨(some 114), (.nilck (.tmp 91)), none⟩ (.take ⟨(some 115), (.fad 13 (.tmp 114)), none⟩ (.alt true ⟨none, (.st1 (.tmp 115) (.tmp 113)), none⟩ .done .stop))) .stop))))))))))))))))))))))))
    (.seq (.reg [⟨(some 116), (.mv (.tmp 0)), none⟩, ⟨(some 117), (.nilck (.tmp 116)), none⟩, ⟨(some 118), (.fad 11 (.tmp 117)), none⟩, ⟨none, (.st1 (.tmp 118) (.const (.int .i64 2))), none⟩])
    (.reg [⟨(some 119), (.mv (.tmp 0)), none⟩, ⟨(some 120), (.call 88 [(.tmp 119)]), none⟩]))) .skip)))))))
    (.reg [⟨(some 121), (.mv (.tmp 0)), none⟩, ⟨(some 122), (.mv (.tmp 0)), none⟩, ⟨(some 123), (.nilck (.tmp 122)), none⟩, ⟨(some 124), (.fad 14 (.tmp 123)), none⟩, ⟨(some 125), (.ld1 (.tmp 124)), none⟩, ⟨(some 126), (.nt (.tmp 125)), none⟩, ⟨(some 127), (.nilck (.tmp 121)), none⟩, ⟨(some 128), (.fad 15 (.tmp 127)), none⟩, ⟨none, (.st1 (.tmp 128) (.tmp 126)), none⟩]))⟩ := by kernel_rfl

/-- (*allotment/give.Freer).kept -/
theorem tr88 : trF Try.prog pures Try.f88 = some
  ⟨20, [],
    (.block 0
    (.seq (.reg [⟨(some 3), (.mv (.tmp 0)), none⟩, ⟨(some 4), (.nilck (.tmp 3)), none⟩, ⟨(some 5), (.fad 13 (.tmp 4)), none⟩, ⟨(some 6), (.ld1 (.tmp 5)), none⟩, ⟨(some 7), (.call 145 [(.tmp 6)]), none⟩, ⟨(some 2), (.mv (.tmp 7)), none⟩])
    (.cond (.tmp 2)
    (.reg [⟨(some 8), (.mv (.tmp 0)), none⟩, ⟨(some 9), (.nilck (.tmp 8)), none⟩, ⟨(some 10), (.fad 15 (.tmp 9)), none⟩, ⟨none, (.st1 (.tmp 10) (.const (.bool true))), none⟩])
    (.seq (.reg [⟨(some 12), (.mv (.tmp 0)), none⟩, ⟨(some 13), (.nilck (.tmp 12)), none⟩, ⟨(some 14), (.fad 13 (.tmp 13)), none⟩, ⟨(some 15), (.ld1 (.tmp 14)), none⟩, ⟨(some 16), (.call 146 [(.tmp 15)]), none⟩, ⟨(some 11), (.mv (.tmp 16)), none⟩])
    (.cond (.tmp 11)
    (.reg [⟨(some 17), (.mv (.tmp 0)), none⟩, ⟨(some 18), (.nilck (.tmp 17)), none⟩, ⟨(some 19), (.fad 11 (.tmp 18)), none⟩, ⟨none, (.st1 (.tmp 19) (.const (.int .i64 3))), none⟩]) .skip)))))⟩ := by kernel_rfl

/-- (*allotment/give.Freer).empty -/
theorem tr90 : trF Try.prog pures Try.f90 = some
  ⟨61, [],
    (.seq (.seq
    (.reg [⟨(some 4), (.mv (.tmp 0)), none⟩, ⟨(some 5), (.nilck (.tmp 4)), none⟩, ⟨(some 6), (.fad 12 (.tmp 5)), none⟩, ⟨(some 7), (.ld1 (.tmp 6)), none⟩, ⟨(some 8), (.mv (.tmp 0)), none⟩, ⟨(some 9), (.nilck (.tmp 8)), none⟩, ⟨(some 10), (.fad 8 (.tmp 9)), none⟩, ⟨(some 11), (.fad 1 (.tmp 10)), none⟩, ⟨(some 12), (.ld1 (.tmp 11)), none⟩, ⟨(some 13), (.ar .sub (.tmp 12) (.const (.int .i64 1))), none⟩, ⟨(some 14), (.cmp .eql (.tmp 7) (.tmp 13)), none⟩])
    (.cond (.tmp 14)
    (.seq (.draw (.take ⟨(some 15), (.mv (.tmp 1)), none⟩ (.take ⟨(some 16), (.mv (.tmp 0)), none⟩ (.take ⟨(some 17), (.nilck (.tmp 16)), none⟩ (.take ⟨(some 18), (.fad 3 (.tmp 17)), none⟩ (.take ⟨(some 19), (.ld1 (.tmp 18)), none⟩ (.take ⟨(some 20), (.mv (.tmp 0)), none⟩ (.take ⟨(some 21), (.nilck (.tmp 20)), none⟩ (.take ⟨(some 22), (.fad 0 (.tmp 21)), none⟩ (.take ⟨(some 23), (.ldn 3 (.tmp 22)), none⟩ (.take ⟨(some 24), (.mv (.tmp 0)), none⟩ (.take ⟨(some 25), (.nilck (.tmp 24)), none⟩ (.take ⟨(some 26), (.fad 5 (.tmp 25)), none⟩ (.take ⟨(some 27), (.ld1 (.tmp 26)), none⟩ (.alt false ⟨(some 28), (.pcall 71 [(.tmp 23), (.tmp 27)]), none⟩ (.alt true ⟨(some 29), (.call 78 [(.tmp 15), (.tmp 19), (.tmp 28), (.const (.int .u64 0))]), none⟩ .done .stop) .stop)))))))))))))))
    (.seq (.reg [⟨(some 30), (.mv (.tmp 0)), none⟩, ⟨(some 31), (.nilck (.tmp 30)), none⟩, ⟨(some 32), (.fad 15 (.tmp 31)), none⟩, ⟨none, (.st1 (.tmp 32) (.const (.bool true))), none⟩]) .ret)) .skip))
    (.seq (.draw (.take ⟨(some 33), (.mv (.tmp 1)), none⟩ (.take ⟨(some 34), (.mv (.tmp 0)), none⟩ (.take ⟨(some 35), (.nilck (.tmp 34)), none⟩ (.take ⟨(some 36), (.fad 3 (.tmp 35)), none⟩ (.take ⟨(some 37), (.ld1 (.tmp 36)), none⟩ (.take ⟨(some 38), (.mv (.tmp 0)), none⟩ (.take ⟨(some 39), (.nilck (.tmp 38)), none⟩ (.take ⟨(some 40), (.fad 0 (.tmp 39)), none⟩ (.take ⟨(some 41), (.ldn 3 (.tmp 40)), none⟩ (.take ⟨(some 42), (.mv (.tmp 0)), none⟩ (.take ⟨(some 43), (.nilck (.tmp 42)), none⟩ (.take ⟨(some 44), (.fad 5 (.tmp 43)), none⟩ (.take ⟨(some 45), (.ld1 (.tmp 44)), none⟩ (.take ⟨(some 46), (.mv (.tmp 0)), none⟩ (.take ⟨(some 47), (.nilck (.tmp 46)), none⟩ (.take ⟨(some 48), (.fad 12 (.tmp 47)), none⟩ (.take ⟨(some 49), (.ld1 (.tmp 48)), none⟩ (.take ⟨(some 50), (.ar .add (.tmp 45) (.tmp 49)), none⟩ (.take ⟨(some 51), (.ar .add (.tmp 50) (.const (.int .i64 1))), none⟩ (.alt false ⟨(some 52), (.pcall 71 [(.tmp 41), (.tmp 51)]), none⟩ (.alt true ⟨(some 53), (.call 78 [(.tmp 33), (.tmp 37), (.tmp 52), (.const (.int .u64 0))]), none⟩ .done .stop) .stop)))))))))))))))))))))
    (.reg [⟨(some 54), (.mv (.tmp 0)), none⟩, ⟨(some 55), (.nilck (.tmp 54)), none⟩, ⟨(some 56), (.fad 12 (.tmp 55)), none⟩, ⟨(some 57), (.ld1 (.tmp 56)), none⟩, ⟨(some 58), (.ar .add (.tmp 57) (.const (.int .i64 1))), none⟩, ⟨(some 59), (.nilck (.tmp 54)), none⟩, ⟨(some 60), (.fad 12 (.tmp 59)), none⟩, ⟨none, (.st1 (.tmp 60) (.tmp 58)), none⟩])))⟩ := by kernel_rfl

/-- allotment/allotmentref20.enough -/
theorem tr91 : trF Try.prog pures Try.f91 = some
  ⟨14, [(.t 4)],
    (.seq (.reg [⟨(some 2), (.box 25 (.tmp 0)), none⟩, ⟨(some 4), (.mv (.const (.bool false))), none⟩])
    (.seq (.reg [⟨(some 5), (.ldn 3 (.tmp 2)), none⟩, ⟨(some 6), (.pcall 65 [(.tmp 5)]), none⟩, ⟨(some 7), (.mv (.tmp 6)), none⟩, ⟨(some 8), (.mv (.tmp 1)), (some (7, true))⟩, ⟨(some 9), (.len (.tmp 8)), (some (7, true))⟩, ⟨(some 10), (.ldn 3 (.tmp 2)), (some (7, true))⟩, ⟨(some 11), (.pcall 16 [(.tmp 10)]), (some (7, true))⟩, ⟨(some 12), (.cmp .geq (.tmp 9) (.tmp 11)), (some (7, true))⟩, ⟨(some 13), (.pick (.tmp 7) (.tmp 12) (.const (.bool false))), none⟩, ⟨(some 4), (.mv (.tmp 13)), none⟩]) .ret))⟩ := by kernel_rfl

/-- allotment/allotmentref20.page -/
theorem tr92 : trF Try.prog pures Try.f92 = some
  ⟨24, [(.cn 6 3), (.t 7)],
    (.seq (.reg [⟨(some 3), (.box 25 (.tmp 0)), none⟩, ⟨(some 6), (.alc 32 (.agg #[(.int .i64 0), (.int .i64 0), (.int .i64 0)])), none⟩, ⟨(some 7), (.mv (.const (.bool false))), none⟩])
    (.seq (.reg [⟨(some 9), (.ldn 3 (.tmp 3)), none⟩, ⟨(some 10), (.mv (.tmp 2)), none⟩, ⟨(some 11), (.pcall 18 [(.tmp 9), (.tmp 10)]), none⟩, ⟨(some 8), (.mv (.tmp 11)), none⟩])
    (.seq (.seq
    (.reg [⟨(some 12), (.mv (.tmp 8)), none⟩, ⟨(some 13), (.cmp .lss (.tmp 12) (.const (.int .i64 0))), none⟩])
    (.cond (.tmp 13)
    (.seq (.reg [⟨(some 14), (.bld #[(.int .i64 0), (.int .i64 0), (.int .i64 0)] []), none⟩, ⟨none, (.stn 3 (.tmp 6) (.tmp 14)), none⟩, ⟨(some 7), (.mv (.const (.bool false))), none⟩]) .ret) .skip))
    (.seq (.draw (.take ⟨(some 15), (.ldn 3 (.tmp 3)), none⟩ (.take ⟨(some 16), (.mv (.tmp 2)), none⟩ (.take ⟨(some 17), (.mv (.tmp 1)), none⟩ (.take ⟨(some 18), (.mv (.tmp 8)), none⟩ (.take ⟨(some 19), (.iad 1 (.tmp 17) (.tmp 18)), none⟩ (.take ⟨(some 20), (.ld1 (.tmp 19)), none⟩ (.alt false ⟨(some 21), (.pcall 102 [(.tmp 15), (.tmp 16), (.tmp 20)]), none⟩ (.take ⟨(some 22), (.ext 0 (.tmp 21)), none⟩ (.take ⟨(some 23), (.ext 1 (.tmp 21)), none⟩ (.alt false ⟨none, (.stn 3 (.tmp 6) (.tmp 22)), none⟩ (.take ⟨(some 7), (.mv (.tmp 23)), none⟩ .done) .stop))) .stop)))))))) .ret))))⟩ := by kernel_rfl

/-- allotment/allotmentref20.soundPage -/
theorem tr93 : trF Try.prog pures Try.f93 = some
  ⟨155, [(.t 8)],
    (.seq (.reg [⟨(some 4), (.box 25 (.tmp 0)), none⟩, ⟨(some 7), (.box 32 (.tmp 3)), none⟩, ⟨(some 8), (.mv (.const (.bool false))), none⟩])
    (.seq (.seq
    (.reg [⟨(some 19), (.fad 0 (.tmp 7)), none⟩, ⟨(some 20), (.ld1 (.tmp 19)), none⟩])
    (.block 0
    (.seq (.reg [⟨(some 22), (.cmp .eql (.tmp 20) (.const (.int .i64 2))), none⟩, ⟨(some 21), (.mv (.tmp 22)), none⟩])
    (.cond (.tmp 21)
    (.seq (.seq
    (.reg [⟨(some 9), (.mv (.const (.int .i64 0))), none⟩])
    (.block 1
    (.loop (.seq
    (.seq (.reg [⟨(some 23), (.mv (.tmp 9)), none⟩, ⟨(some 24), (.cmp .lss (.tmp 23) (.const (.int .i64 16))), none⟩])
    (.cond (.tmp 24) .skip (.exit 1)))
    (.seq (.block 2
    (.seq (.reg [⟨(some 27), (.ldn 3 (.tmp 4)), none⟩, ⟨(some 28), (.mv (.tmp 1)), none⟩, ⟨(some 29), (.mv (.tmp 2)), none⟩, ⟨(some 30), (.mv (.tmp 9)), none⟩, ⟨(some 31), (.call 96 [(.tmp 27), (.tmp 28), (.tmp 29), (.tmp 30)]), none⟩, ⟨(some 10), (.alc 37 (.agg #[(.int .i64 0), (.int .i64 0)])), none⟩, ⟨none, (.stn 2 (.tmp 10) (.tmp 31)), none⟩])
    (.seq (.reg [⟨(some 32), (.mv (.tmp 1)), none⟩, ⟨(some 33), (.ldn 3 (.tmp 4)), none⟩, ⟨(some 34), (.mv (.tmp 2)), none⟩, ⟨(some 35), (.mv (.tmp 9)), none⟩, ⟨(some 36), (.pcall 21 [(.tmp 33), (.tmp 34), (.tmp 35)]), none⟩, ⟨(some 37), (.iad 1 (.tmp 32) (.tmp 36)), none⟩, ⟨(some 38), (.ld1 (.tmp 37)), none⟩, ⟨(some 11), (.mv (.tmp 38)), none⟩])
    (.seq (.reg [⟨(some 39), (.fad 0 (.tmp 10)), none⟩, ⟨(some 40), (.ld1 (.tmp 39)), none⟩, ⟨(some 41), (.cmp .eql (.tmp 40) (.const (.int .i64 1))), none⟩, ⟨(some 42), (.mv (.tmp 41)), none⟩, ⟨(some 43), (.fad 0 (.tmp 10)), (some (42, false))⟩, ⟨(some 44), (.ld1 (.tmp 43)), (some (42, false))⟩, ⟨(some 45), (.cmp .eql (.tmp 44) (.const (.int .i64 3))), (some (42, false))⟩, ⟨(some 46), (.pick (.tmp 42) (.const (.bool true)) (.tmp 45)), none⟩, ⟨(some 47), (.mv (.tmp 46)), none⟩, ⟨(some 48), (.fad 1 (.tmp 10)), (some (47, true))⟩, ⟨(some 49), (.ld1 (.tmp 48)), (some (47, true))⟩, ⟨(some 50), (.fad 1 (.tmp 7)), (some (47, true))⟩, ⟨(some 51), (.ld1 (.tmp 50)), (some (47, true))⟩, ⟨(some 52), (.cmp .eql (.tmp 49) (.tmp 51)), (some (47, true))⟩, ⟨(some 53), (.pick (.tmp 47) (.tmp 52) (.const (.bool false))), none⟩, ⟨(some 54), (.mv (.tmp 53)), none⟩, ⟨(some 55), (.fad 0 (.tmp 10)), (some (54, false))⟩, ⟨(some 56), (.ld1 (.tmp 55)), (some (54, false))⟩, ⟨(some 57), (.cmp .eql (.tmp 56) (.const (.int .i64 2))), (some (54, false))⟩, ⟨(some 58), (.mv (.tmp 57)), (some (54, false))⟩, ⟨(some 59), (.fad 1 (.tmp 10)), (some (58, true))⟩, ⟨(some 60), (.ld1 (.tmp 59)), (some (58, true))⟩, ⟨(some 61), (.fad 1 (.tmp 4)), (some (58, true))⟩, ⟨(some 62), (.ld1 (.tmp 61)), (some (58, true))⟩, ⟨(some 63), (.cmp .lss (.tmp 60) (.tmp 62)), (some (58, true))⟩, ⟨(some 64), (.pick (.tmp 58) (.tmp 63) (.const (.bool false))), (some (54, false))⟩, ⟨(some 65), (.pick (.tmp 54) (.const (.bool true)) (.tmp 64)), none⟩, ⟨(some 12), (.mv (.tmp 65)), none⟩])
    (.seq (.reg [⟨(some 66), (.mv (.tmp 9)), none⟩, ⟨(some 67), (.fad 1 (.tmp 7)), none⟩, ⟨(some 68), (.ld1 (.tmp 67)), none⟩, ⟨(some 69), (.pcall 19 [(.tmp 68)]), none⟩, ⟨(some 70), (.cmp .lss (.tmp 66) (.tmp 69)), none⟩, ⟨(some 71), (.mv (.tmp 70)), none⟩, ⟨(some 72), (.mv (.tmp 12)), (some (71, true))⟩, ⟨(some 73), (.nt (.tmp 72)), (some (71, true))⟩, ⟨(some 74), (.pick (.tmp 71) (.tmp 73) (.const (.bool false))), none⟩, ⟨(some 75), (.mv (.tmp 74)), none⟩, ⟨(some 76), (.mv (.tmp 9)), (some (75, false))⟩, ⟨(some 77), (.fad 1 (.tmp 7)), (some (75, false))⟩, ⟨(some 78), (.ld1 (.tmp 77)), (some (75, false))⟩, ⟨(some 79), (.pcall 19 [(.tmp 78)]), (some (75, false))⟩, ⟨(some 80), (.cmp .geq (.tmp 76) (.tmp 79)), (some (75, false))⟩, ⟨(some 81), (.mv (.tmp 80)), (some (75, false))⟩, ⟨(some 82), (.mv (.tmp 11)), (some (81, true))⟩, ⟨(some 83), (.cmp .neq (.tmp 82) (.const (.int .u64 0))), (some (81, true))⟩, ⟨(some 84), (.pick (.tmp 81) (.tmp 83) (.const (.bool false))), (some (75, false))⟩, ⟨(some 85), (.pick (.tmp 75) (.const (.bool true)) (.tmp 84)), none⟩])
    (.cond (.tmp 85)
    (.seq (.reg [⟨(some 8), (.mv (.const (.bool false))), none⟩]) .ret) .skip))))))
    (.reg [⟨(some 25), (.mv (.tmp 9)), none⟩, ⟨(some 26), (.ar .add (.tmp 25) (.const (.int .i64 1))), none⟩, ⟨(some 9), (.mv (.tmp 26)), none⟩]))))))
    (.seq (.reg [⟨(some 8), (.mv (.const (.bool true))), none⟩]) .ret))
    (.seq (.reg [⟨(some 87), (.cmp .eql (.tmp 20) (.const (.int .i64 1))), none⟩, ⟨(some 86), (.mv (.tmp 87)), none⟩])
    (.cond (.tmp 86)
    (.seq (.reg [⟨(some 8), (.mv (.const (.bool true))), none⟩]) .ret) .skip))))))
    (.seq (.seq
    (.reg [⟨(some 13), (.mv (.const (.int .i64 0))), none⟩])
    (.block 3
    (.loop (.seq
    (.seq (.reg [⟨(some 88), (.mv (.tmp 13)), none⟩, ⟨(some 89), (.cmp .lss (.tmp 88) (.const (.int .i64 16))), none⟩])
    (.cond (.tmp 89) .skip (.exit 3)))
    (.seq (.block 4
    (.seq (.reg [⟨(some 92), (.mv (.tmp 1)), none⟩, ⟨(some 93), (.ldn 3 (.tmp 4)), none⟩, ⟨(some 94), (.mv (.tmp 2)), none⟩, ⟨(some 95), (.mv (.tmp 13)), none⟩, ⟨(some 96), (.pcall 21 [(.tmp 93), (.tmp 94), (.tmp 95)]), none⟩, ⟨(some 97), (.iad 1 (.tmp 92) (.tmp 96)), none⟩, ⟨(some 98), (.ld1 (.tmp 97)), none⟩, ⟨(some 99), (.cmp .neq (.tmp 98) (.const (.int .u64 0))), none⟩])
    (.cond (.tmp 99)
    (.seq (.reg [⟨(some 8), (.mv (.const (.bool false))), none⟩]) .ret) .skip)))
    (.reg [⟨(some 90), (.mv (.tmp 13)), none⟩, ⟨(some 91), (.ar .add (.tmp 90) (.const (.int .i64 1))), none⟩, ⟨(some 13), (.mv (.tmp 91)), none⟩]))))))
    (.seq (.seq
    (.reg [⟨(some 100), (.fad 0 (.tmp 7)), none⟩, ⟨(some 101), (.ld1 (.tmp 100)), none⟩])
    (.block 5
    (.seq (.reg [⟨(some 103), (.cmp .eql (.tmp 101) (.const (.int .i64 4))), none⟩, ⟨(some 102), (.mv (.tmp 103)), none⟩])
    (.cond (.tmp 102)
    (.seq (.reg [⟨(some 105), (.ldn 3 (.tmp 4)), none⟩, ⟨(some 106), (.mv (.tmp 1)), none⟩, ⟨(some 107), (.fad 1 (.tmp 7)), none⟩, ⟨(some 108), (.ld1 (.tmp 107)), none⟩, ⟨(some 109), (.call 92 [(.tmp 105), (.tmp 106), (.tmp 108)]), none⟩, ⟨(some 104), (.mv (.tmp 109)), none⟩, ⟨(some 110), (.ext 0 (.tmp 104)), none⟩, ⟨(some 111), (.ext 1 (.tmp 104)), none⟩, ⟨(some 14), (.alc 32 (.agg #[(.int .i64 0), (.int .i64 0), (.int .i64 0)])), none⟩, ⟨none, (.stn 3 (.tmp 14) (.tmp 110)), none⟩, ⟨(some 15), (.mv (.tmp 111)), none⟩])
    (.seq (.reg [⟨(some 112), (.fad 0 (.tmp 14)), none⟩, ⟨(some 113), (.ld1 (.tmp 112)), none⟩, ⟨(some 114), (.cmp .eql (.tmp 113) (.const (.int .i64 1))), none⟩, ⟨(some 115), (.mv (.tmp 114)), none⟩, ⟨(some 116), (.fad 0 (.tmp 14)), (some (115, false))⟩, ⟨(some 117), (.ld1 (.tmp 116)), (some (115, false))⟩, ⟨(some 118), (.cmp .eql (.tmp 117) (.const (.int .i64 3))), (some (115, false))⟩, ⟨(some 119), (.mv (.tmp 118)), (some (115, false))⟩, ⟨(some 120), (.mv (.tmp 2)), (some (119, true))⟩, ⟨(some 121), (.fad 1 (.tmp 7)), (some (119, true))⟩, ⟨(some 122), (.ld1 (.tmp 121)), (some (119, true))⟩, ⟨(some 123), (.fad 1 (.tmp 14)), (some (119, true))⟩, ⟨(some 124), (.ld1 (.tmp 123)), (some (119, true))⟩, ⟨(some 125), (.ar .add (.tmp 122) (.tmp 124)), (some (119, true))⟩, ⟨(some 126), (.cmp .lss (.tmp 120) (.tmp 125)), (some (119, true))⟩, ⟨(some 127), (.pick (.tmp 119) (.tmp 126) (.const (.bool false))), (some (115, false))⟩, ⟨(some 128), (.pick (.tmp 115) (.const (.bool true)) (.tmp 127)), none⟩, ⟨(some 8), (.mv (.tmp 128)), none⟩]) .ret))
    (.seq (.reg [⟨(some 130), (.cmp .eql (.tmp 101) (.const (.int .i64 3))), none⟩, ⟨(some 129), (.mv (.tmp 130)), none⟩])
    (.cond (.tmp 129)
    (.seq (.reg [⟨(some 16), (.mv (.const (.int .i64 1))), none⟩])
    (.block 6
    (.loop (.seq
    (.seq (.reg [⟨(some 131), (.mv (.tmp 16)), none⟩, ⟨(some 132), (.fad 1 (.tmp 7)), none⟩, ⟨(some 133), (.ld1 (.tmp 132)), none⟩, ⟨(some 134), (.cmp .lss (.tmp 131) (.tmp 133)), none⟩])
    (.cond (.tmp 134) .skip (.exit 6)))
    (.seq (.block 7
    (.seq (.reg [⟨(some 138), (.ldn 3 (.tmp 4)), none⟩, ⟨(some 139), (.mv (.tmp 1)), none⟩, ⟨(some 140), (.mv (.tmp 2)), none⟩, ⟨(some 141), (.mv (.tmp 16)), none⟩, ⟨(some 142), (.ar .add (.tmp 140) (.tmp 141)), none⟩, ⟨(some 143), (.call 92 [(.tmp 138), (.tmp 139), (.tmp 142)]), none⟩, ⟨(some 137), (.mv (.tmp 143)), none⟩, ⟨(some 144), (.ext 0 (.tmp 137)), none⟩, ⟨(some 145), (.ext 1 (.tmp 137)), none⟩, ⟨(some 17), (.alc 32 (.agg #[(.int .i64 0), (.int .i64 0), (.int .i64 0)])), none⟩, ⟨none, (.stn 3 (.tmp 17) (.tmp 144)), none⟩, ⟨(some 18), (.mv (.tmp 145)), none⟩])
    (.seq (.reg [⟨(some 146), (.fad 0 (.tmp 17)), none⟩, ⟨(some 147), (.ld1 (.tmp 146)), none⟩, ⟨(some 148), (.cmp .neq (.tmp 147) (.const (.int .i64 4))), none⟩, ⟨(some 149), (.mv (.tmp 148)), none⟩, ⟨(some 150), (.fad 1 (.tmp 17)), (some (149, false))⟩, ⟨(some 151), (.ld1 (.tmp 150)), (some (149, false))⟩, ⟨(some 152), (.mv (.tmp 2)), (some (149, false))⟩, ⟨(some 153), (.cmp .neq (.tmp 151) (.tmp 152)), (some (149, false))⟩, ⟨(some 154), (.pick (.tmp 149) (.const (.bool true)) (.tmp 153)), none⟩])
    (.cond (.tmp 154)
    (.seq (.reg [⟨(some 8), (.mv (.const (.bool false))), none⟩]) .ret) .skip))))
    (.reg [⟨(some 135), (.mv (.tmp 16)), none⟩, ⟨(some 136), (.ar .add (.tmp 135) (.const (.int .i64 1))), none⟩, ⟨(some 16), (.mv (.tmp 136)), none⟩])))))) .skip))))))
    (.seq (.reg [⟨(some 8), (.mv (.const (.bool true))), none⟩]) .ret)))))⟩ := by kernel_rfl

/-- allotment/allotmentref20.slot -/
theorem tr96 : trF Try.prog pures Try.f96 = some
  ⟨17, [(.cn 8 2)],
    (.seq (.reg [⟨(some 4), (.box 25 (.tmp 0)), none⟩, ⟨(some 8), (.alc 37 (.agg #[(.int .i64 0), (.int .i64 0)])), none⟩])
    (.seq (.reg [⟨(some 9), (.mv (.tmp 1)), none⟩, ⟨(some 10), (.ldn 3 (.tmp 4)), none⟩, ⟨(some 11), (.mv (.tmp 2)), none⟩, ⟨(some 12), (.mv (.tmp 3)), none⟩, ⟨(some 13), (.pcall 21 [(.tmp 10), (.tmp 11), (.tmp 12)]), none⟩, ⟨(some 14), (.iad 1 (.tmp 9) (.tmp 13)), none⟩, ⟨(some 15), (.ld1 (.tmp 14)), none⟩, ⟨(some 16), (.pcall 147 [(.tmp 15)]), none⟩, ⟨none, (.stn 2 (.tmp 8) (.tmp 16)), none⟩]) .ret))⟩ := by kernel_rfl

/-- (*allotment/adopt.Adopter).end -/
theorem tr118 : trF Try.prog pures Try.f118 = some
  ⟨11, [],
    (.reg [⟨(some 4), (.mv (.tmp 0)), none⟩, ⟨(some 5), (.mv (.tmp 0)), none⟩, ⟨(some 6), (.mv (.tmp 1)), none⟩, ⟨(some 7), (.nilck (.tmp 4)), none⟩, ⟨(some 8), (.fad 13 (.tmp 7)), none⟩, ⟨none, (.st1 (.tmp 8) (.tmp 6)), none⟩, ⟨(some 9), (.nilck (.tmp 5)), none⟩, ⟨(some 10), (.fad 14 (.tmp 9)), none⟩, ⟨none, (.st1 (.tmp 10) (.const (.bool true))), none⟩])⟩ := by kernel_rfl

/-- (*allotment/adopt.Adopter).begin -/
theorem tr119 : trF Try.prog pures Try.f119 = some
  ⟨73, [],
    (.seq (.reg [⟨(some 6), (.mv (.tmp 0)), none⟩, ⟨(some 7), (.nilck (.tmp 6)), none⟩, ⟨(some 8), (.fad 5 (.tmp 7)), none⟩, ⟨(some 9), (.ld1 (.tmp 8)), none⟩])
    (.block 0
    (.seq (.reg [⟨(some 41), (.cmp .eql (.tmp 9) (.const (.int .i64 0))), none⟩, ⟨(some 40), (.mv (.tmp 41)), none⟩])
    (.cond (.tmp 40)
    (.reg [⟨(some 42), (.mv (.tmp 0)), none⟩, ⟨(some 43), (.mv (.tmp 1)), none⟩, ⟨(some 44), (.call 152 [(.tmp 42), (.tmp 43)]), none⟩])
    (.seq (.reg [⟨(some 46), (.cmp .eql (.tmp 9) (.const (.int .i64 1))), none⟩, ⟨(some 45), (.mv (.tmp 46)), none⟩])
    (.cond (.tmp 45)
    (.seq (.draw (.take ⟨(some 48), (.mv (.tmp 1)), none⟩ (.take ⟨(some 49), (.mv (.tmp 0)), none⟩ (.take ⟨(some 50), (.nilck (.tmp 49)), none⟩ (.take ⟨(some 51), (.fad 3 (.tmp 50)), none⟩ (.take ⟨(some 52), (.ld1 (.tmp 51)), none⟩ (.take ⟨(some 53), (.mv (.tmp 0)), none⟩ (.take ⟨(some 54), (.nilck (.tmp 53)), none⟩ (.take ⟨(some 55), (.fad 0 (.tmp 54)), none⟩ (.take ⟨(some 56), (.ldn 3 (.tmp 55)), none⟩ (.take ⟨(some 57), (.mv (.tmp 0)), none⟩ (.take ⟨(some 58), (.nilck (.tmp 57)), none⟩ (.take ⟨(some 59), (.fad 7 (.tmp 58)), none⟩ (.take ⟨(some 60), (.ld1 (.tmp 59)), none⟩ (.alt false ⟨(some 61), (.pcall 68 [(.tmp 56), (.tmp 60)]), none⟩ (.alt false ⟨(some 62), (.call 134 [(.tmp 48), (.tmp 52), (.tmp 61)]), none⟩ (.alt false ⟨(some 63), (.pcall 153 [(.tmp 62)]), none⟩ (.take ⟨(some 47), (.mv (.tmp 63)), none⟩ (.take ⟨(some 64), (.ext 0 (.tmp 47)), none⟩ (.take ⟨(some 65), (.ext 1 (.tmp 47)), none⟩ (.take ⟨(some 4), (.mv (.tmp 64)), none⟩ (.take ⟨(some 5), (.mv (.tmp 65)), none⟩ .done))))) .stop) .stop) .stop)))))))))))))))
    (.seq (.reg [⟨(some 66), (.mv (.tmp 0)), none⟩, ⟨(some 67), (.nilck (.tmp 66)), none⟩, ⟨(some 68), (.fad 5 (.tmp 67)), none⟩, ⟨none, (.st1 (.tmp 68) (.const (.int .i64 2))), none⟩])
    (.seq (.reg [⟨(some 69), (.mv (.tmp 4)), none⟩, ⟨(some 70), (.cmp .eql (.tmp 69) (.const (.int .i64 1))), none⟩])
    (.cond (.tmp 70)
    (.reg [⟨(some 71), (.mv (.tmp 0)), none⟩, ⟨(some 72), (.call 118 [(.tmp 71), (.const (.int .i64 4))]), none⟩]) .skip))))
    (.seq (.reg [⟨(some 10), (.mv (.tmp 0)), none⟩, ⟨(some 11), (.nilck (.tmp 10)), none⟩, ⟨(some 12), (.fad 5 (.tmp 11)), none⟩, ⟨none, (.st1 (.tmp 12) (.const (.int .i64 3))), none⟩])
    (.seq (.draw (.take ⟨(some 13), (.mv (.tmp 1)), none⟩ (.take ⟨(some 14), (.mv (.tmp 0)), none⟩ (.take ⟨(some 15), (.nilck (.tmp 14)), none⟩ (.take ⟨(some 16), (.fad 3 (.tmp 15)), none⟩ (.take ⟨(some 17), (.ld1 (.tmp 16)), none⟩ (.take ⟨(some 18), (.mv (.tmp 0)), none⟩ (.take ⟨(some 19), (.nilck (.tmp 18)), none⟩ (.take ⟨(some 20), (.fad 0 (.tmp 19)), none⟩ (.take ⟨(some 21), (.ldn 3 (.tmp 20)), none⟩ (.take ⟨(some 22), (.mv (.tmp 0)), none⟩ (.take ⟨(some 23), (.nilck (.tmp 22)), none⟩ (.take ⟨(some 24), (.fad 4 (.tmp 23)), none⟩ (.take ⟨(some 25), (.ld1 (.tmp 24)), none⟩ (.take ⟨(some 27), (.mv (.tmp 0)), none⟩ (.take ⟨(some 28), (.nilck (.tmp 27)), none⟩ (.take ⟨(some 29), (.fad 6 (.tmp 28)), none⟩ (.take ⟨(some 30), (.ld1 (.tmp 29)), none⟩ (.take ⟨(some 31), (.mv (.tmp 0)), none⟩ (.take ⟨(some 32), (.nilck (.tmp 31)), none⟩ (.take ⟨(some 33), (.fad 3 (.tmp 32)), none⟩ (.take ⟨(some 34), (.ld1 (.tmp 33)), none⟩ (.alt false ⟨(some 26), (.pcall 68 [(.tmp 21), (.tmp 25)]), none⟩ (.alt false ⟨(some 35), (.pcall 154 [(.const (.int .i64 3)), (.tmp 34)]), none⟩ (.alt false ⟨(some 36), (.call 70 [(.tmp 13), (.tmp 17), (.tmp 26), (.tmp 30), (.tmp 35)]), none⟩ (.take ⟨(some 37), (.nt (.tmp 36)), none⟩ .done) .stop) .stop) .stop)))))))))))))))))))))))
    (.cond (.tmp 37)
    (.reg [⟨(some 38), (.mv (.tmp 0)), none⟩, ⟨(some 39), (.call 118 [(.tmp 38), (.const (.int .i64 4))]), none⟩]) .skip)))))))))⟩ := by kernel_rfl

/-- (*allotment/adopt.Adopter).held -/
theorem tr120 : trF Try.prog pures Try.f120 = some
  ⟨149, [],
    (.seq (.reg [⟨(some 6), (.mv (.tmp 0)), none⟩, ⟨(some 7), (.nilck (.tmp 6)), none⟩, ⟨(some 8), (.fad 5 (.tmp 7)), none⟩, ⟨(some 9), (.ld1 (.tmp 8)), none⟩])
    (.block 0
    (.seq (.reg [⟨(some 28), (.cmp .eql (.tmp 9) (.const (.int .i64 3))), none⟩, ⟨(some 27), (.mv (.tmp 28)), none⟩])
    (.cond (.tmp 27)
    (.seq (.reg [⟨(some 30), (.mv (.tmp 0)), none⟩, ⟨(some 31), (.mv (.tmp 1)), none⟩, ⟨(some 32), (.mv (.tmp 0)), none⟩, ⟨(some 33), (.nilck (.tmp 32)), none⟩, ⟨(some 34), (.fad 8 (.tmp 33)), none⟩, ⟨(some 35), (.ld1 (.tmp 34)), none⟩, ⟨(some 36), (.call 155 [(.tmp 30), (.tmp 31), (.tmp 35)]), none⟩, ⟨(some 29), (.mv (.tmp 36)), none⟩, ⟨(some 37), (.ext 0 (.tmp 29)), none⟩, ⟨(some 38), (.ext 1 (.tmp 29)), none⟩, ⟨(some 4), (.alc 116 (.agg #[(.int .i64 0), (.int .i64 0), (.int .i64 0)])), none⟩, ⟨none, (.stn 3 (.tmp 4) (.tmp 37)), none⟩, ⟨(some 5), (.mv (.tmp 38)), none⟩])
    (.seq (.seq
    (.reg [⟨(some 39), (.mv (.tmp 0)), none⟩, ⟨(some 40), (.ldn 3 (.tmp 4)), none⟩, ⟨(some 41), (.nilck (.tmp 39)), none⟩, ⟨(some 42), (.fad 10 (.tmp 41)), none⟩, ⟨none, (.stn 3 (.tmp 42) (.tmp 40)), none⟩])
    (.seq (.reg [⟨(some 43), (.mv (.tmp 5)), none⟩, ⟨(some 44), (.mv (.tmp 43)), none⟩, ⟨(some 45), (.fad 0 (.tmp 4)), (some (44, true))⟩, ⟨(some 46), (.ld1 (.tmp 45)), (some (44, true))⟩, ⟨(some 47), (.cmp .eql (.tmp 46) (.const (.int .i64 4))), (some (44, true))⟩, ⟨(some 48), (.pick (.tmp 44) (.tmp 47) (.const (.bool false))), none⟩])
    (.cond (.tmp 48)
    (.seq (.reg [⟨(some 49), (.mv (.tmp 0)), none⟩, ⟨(some 50), (.nilck (.tmp 49)), none⟩, ⟨(some 51), (.fad 5 (.tmp 50)), none⟩, ⟨none, (.st1 (.tmp 51) (.const (.int .i64 4))), none⟩]) .ret) .skip)))
    (.reg [⟨(some 52), (.mv (.tmp 0)), none⟩, ⟨(some 53), (.call 156 [(.tmp 52), (.const (.int .i64 3)), (.const (.int .i64 6))]), none⟩])))
    (.seq (.reg [⟨(some 55), (.cmp .eql (.tmp 9) (.const (.int .i64 4))), none⟩, ⟨(some 54), (.mv (.tmp 55)), none⟩])
    (.cond (.tmp 54)
    (.seq (.seq
    (.reg [⟨(some 56), (.mv (.tmp 0)), none⟩, ⟨(some 57), (.mv (.tmp 0)), none⟩, ⟨(some 58), (.mv (.tmp 1)), none⟩, ⟨(some 59), (.mv (.tmp 0)), none⟩, ⟨(some 60), (.nilck (.tmp 59)), none⟩, ⟨(some 61), (.fad 10 (.tmp 60)), none⟩, ⟨(some 62), (.fad 1 (.tmp 61)), none⟩, ⟨(some 63), (.ld1 (.tmp 62)), none⟩, ⟨(some 64), (.call 155 [(.tmp 57), (.tmp 58), (.tmp 63)]), none⟩, ⟨(some 65), (.ext 0 (.tmp 64)), none⟩, ⟨(some 66), (.ext 1 (.tmp 64)), none⟩, ⟨(some 67), (.call 157 [(.tmp 56), (.tmp 65), (.tmp 66)]), none⟩])
    (.cond (.tmp 67)
    (.seq (.reg [⟨(some 68), (.mv (.tmp 0)), none⟩, ⟨(some 69), (.nilck (.tmp 68)), none⟩, ⟨(some 70), (.fad 5 (.tmp 69)), none⟩, ⟨none, (.st1 (.tmp 70) (.const (.int .i64 5))), none⟩]) .ret) .skip))
    (.reg [⟨(some 71), (.mv (.tmp 0)), none⟩, ⟨(some 72), (.call 156 [(.tmp 71), (.const (.int .i64 3)), (.const (.int .i64 6))]), none⟩]))
    (.seq (.reg [⟨(some 74), (.cmp .eql (.tmp 9) (.const (.int .i64 5))), none⟩, ⟨(some 73), (.mv (.tmp 74)), none⟩])
    (.cond (.tmp 73)
    (.seq (.draw (.take ⟨(some 75), (.mv (.tmp 1)), none⟩ (.take ⟨(some 76), (.mv (.tmp 0)), none⟩ (.take ⟨(some 77), (.nilck (.tmp 76)), none⟩ (.take ⟨(some 78), (.fad 3 (.tmp 77)), none⟩ (.take ⟨(some 79), (.ld1 (.tmp 78)), none⟩ (.take ⟨(some 80), (.mv (.tmp 0)), none⟩ (.take ⟨(some 81), (.nilck (.tmp 80)), none⟩ (.take ⟨(some 82), (.fad 0 (.tmp 81)), none⟩ (.take ⟨(some 83), (.ldn 3 (.tmp 82)), none⟩ (.take ⟨(some 84), (.mv (.tmp 0)), none⟩ (.take ⟨(some 85), (.nilck (.tmp 84)), none⟩ (.take ⟨(some 86), (.fad 8 (.tmp 85)), none⟩ (.take ⟨(some 87), (.ld1 (.tmp 86)), none⟩ (.alt false ⟨(some 88), (.pcall 71 [(.tmp 83), (.tmp 87)]), none⟩ (.alt true ⟨(some 89), (.call 78 [(.tmp 75), (.tmp 79), (.tmp 88), (.const (.int .u64 0))]), none⟩ .done .stop) .stop)))))))))))))))
    (.reg [⟨(some 90), (.mv (.tmp 0)), none⟩, ⟨(some 91), (.call 156 [(.tmp 90), (.const (.int .i64 3)), (.const (.int .i64 6))]), none⟩]))
    (.seq (.reg [⟨(some 93), (.cmp .eql (.tmp 9) (.const (.int .i64 6))), none⟩, ⟨(some 92), (.mv (.tmp 93)), none⟩])
    (.cond (.tmp 92)
    (.seq (.seq
    (.reg [⟨(some 94), (.mv (.tmp 0)), none⟩, ⟨(some 95), (.mv (.tmp 0)), none⟩, ⟨(some 96), (.mv (.tmp 1)), none⟩, ⟨(some 97), (.mv (.tmp 0)), none⟩, ⟨(some 98), (.nilck (.tmp 97)), none⟩, ⟨(some 99), (.fad 8 (.tmp 98)), none⟩, ⟨(some 100), (.ld1 (.tmp 99)), none⟩, ⟨(some 101), (.call 155 [(.tmp 95), (.tmp 96), (.tmp 100)]), none⟩, ⟨(some 102), (.ext 0 (.tmp 101)), none⟩, ⟨(some 103), (.ext 1 (.tmp 101)), none⟩, ⟨(some 104), (.call 157 [(.tmp 94), (.tmp 102), (.tmp 103)]), none⟩])
    (.cond (.tmp 104)
    (.seq (.reg [⟨(some 105), (.mv (.tmp 0)), none⟩, ⟨(some 106), (.mv (.tmp 0)), none⟩, ⟨(some 107), (.nilck (.tmp 105)), none⟩, ⟨(some 108), (.fad 5 (.tmp 107)), none⟩, ⟨none, (.st1 (.tmp 108) (.const (.int .i64 7))), none⟩, ⟨(some 109), (.nilck (.tmp 106)), none⟩, ⟨(some 110), (.fad 9 (.tmp 109)), none⟩, ⟨none, (.st1 (.tmp 110) (.const (.int .i64 0))), none⟩]) .ret) .skip))
    (.reg [⟨(some 111), (.mv (.tmp 0)), none⟩, ⟨(some 112), (.call 156 [(.tmp 111), (.const (.int .i64 6)), (.const (.int .i64 9))]), none⟩]))
    (.seq (.reg [⟨(some 114), (.cmp .eql (.tmp 9) (.const (.int .i64 7))), none⟩, ⟨(some 113), (.mv (.tmp 114)), none⟩])
    (.cond (.tmp 113)
    (.seq (.draw (.take ⟨(some 115), (.mv (.tmp 1)), none⟩ (.take ⟨(some 116), (.mv (.tmp 0)), none⟩ (.take ⟨(some 117), (.nilck (.tmp 116)), none⟩ (.take ⟨(some 118), (.fad 3 (.tmp 117)), none⟩ (.take ⟨(some 119), (.ld1 (.tmp 118)), none⟩ (.take ⟨(some 120), (.mv (.tmp 0)), none⟩ (.take ⟨(some 121), (.nilck (.tmp 120)), none⟩ (.take ⟨(some 122), (.fad 0 (.tmp 121)), none⟩ (.take ⟨(some 123), (.ldn 3 (.tmp 122)), none⟩ (.take ⟨(some 124), (.mv (.tmp 0)), none⟩ (.take ⟨(some 125), (.nilck (.tmp 124)), none⟩ (.take ⟨(some 126), (.fad 8 (.tmp 125)), none⟩ (.take ⟨(some 127), (.ld1 (.tmp 126)), none⟩ (.take ⟨(some 128), (.mv (.tmp 0)), none⟩ (.take ⟨(some 129), (.nilck (.tmp 128)), none⟩ (.take ⟨(some 130), (.fad 9 (.tmp 129)), none⟩ (.take ⟨(some 131), (.ld1 (.tmp 130)), none⟩ (.alt false ⟨(some 132), (.pcall 79 [(.tmp 123), (.tmp 127), (.tmp 131)]), none⟩ (.alt true ⟨(some 133), (.call 78 [(.tmp 115), (.tmp 119), (.tmp 132), (.const (.int .u64 0))]), none⟩ .done .stop) .stop)))))))))))))))))))
    (.seq (.reg [⟨(some 134), (.mv (.tmp 0)), none⟩, ⟨(some 135), (.nilck (.tmp 134)), none⟩, ⟨(some 136), (.fad 9 (.tmp 135)), none⟩, ⟨(some 137), (.ld1 (.tmp 136)), none⟩, ⟨(some 138), (.ar .add (.tmp 137) (.const (.int .i64 1))), none⟩, ⟨(some 139), (.nilck (.tmp 134)), none⟩, ⟨(some 140), (.fad 9 (.tmp 139)), none⟩, ⟨none, (.st1 (.tmp 140) (.tmp 138)), none⟩])
    (.seq (.reg [⟨(some 141), (.mv (.tmp 0)), none⟩, ⟨(some 142), (.nilck (.tmp 141)), none⟩, ⟨(some 143), (.fad 9 (.tmp 142)), none⟩, ⟨(some 144), (.ld1 (.tmp 143)), none⟩, ⟨(some 145), (.cmp .eql (.tmp 144) (.const (.int .i64 16))), none⟩])
    (.cond (.tmp 145)
    (.reg [⟨(some 146), (.mv (.tmp 0)), none⟩, ⟨(some 147), (.nilck (.tmp 146)), none⟩, ⟨(some 148), (.fad 5 (.tmp 147)), none⟩, ⟨none, (.st1 (.tmp 148) (.const (.int .i64 8))), none⟩]) .skip))))
    (.seq (.draw (.take ⟨(some 10), (.mv (.tmp 1)), none⟩ (.take ⟨(some 11), (.mv (.tmp 0)), none⟩ (.take ⟨(some 12), (.nilck (.tmp 11)), none⟩ (.take ⟨(some 13), (.fad 3 (.tmp 12)), none⟩ (.take ⟨(some 14), (.ld1 (.tmp 13)), none⟩ (.take ⟨(some 15), (.mv (.tmp 0)), none⟩ (.take ⟨(some 16), (.nilck (.tmp 15)), none⟩ (.take ⟨(some 17), (.fad 0 (.tmp 16)), none⟩ (.take ⟨(some 18), (.ldn 3 (.tmp 17)), none⟩ (.take ⟨(some 19), (.mv (.tmp 0)), none⟩ (.take ⟨(some 20), (.nilck (.tmp 19)), none⟩ (.take ⟨(some 21), (.fad 8 (.tmp 20)), none⟩ (.take ⟨(some 22), (.ld1 (.tmp 21)), none⟩ (.alt false ⟨(some 23), (.pcall 71 [(.tmp 18), (.tmp 22)]), none⟩ (.alt true ⟨(some 24), (.call 78 [(.tmp 10), (.tmp 14), (.tmp 23), (.const (.int .u64 0))]), none⟩ .done .stop) .stop)))))))))))))))
    (.reg [⟨(some 25), (.mv (.tmp 0)), none⟩, ⟨(some 26), (.call 156 [(.tmp 25), (.const (.int .i64 6)), (.const (.int .i64 9))]), none⟩]))))))))))))))⟩ := by kernel_rfl

/-- (*allotment/adopt.Adopter).ways -/
theorem tr122 : trF Try.prog pures Try.f122 = some
  ⟨121, [],
    (.seq (.reg [⟨(some 6), (.mv (.tmp 0)), none⟩, ⟨(some 7), (.nilck (.tmp 6)), none⟩, ⟨(some 8), (.fad 5 (.tmp 7)), none⟩, ⟨(some 9), (.ld1 (.tmp 8)), none⟩])
    (.block 0
    (.seq (.reg [⟨(some 29), (.cmp .eql (.tmp 9) (.const (.int .i64 10))), none⟩, ⟨(some 28), (.mv (.tmp 29)), none⟩])
    (.cond (.tmp 28)
    (.seq (.reg [⟨(some 31), (.mv (.tmp 0)), none⟩, ⟨(some 32), (.mv (.tmp 1)), none⟩, ⟨(some 33), (.mv (.tmp 0)), none⟩, ⟨(some 34), (.nilck (.tmp 33)), none⟩, ⟨(some 35), (.fad 8 (.tmp 34)), none⟩, ⟨(some 36), (.ld1 (.tmp 35)), none⟩, ⟨(some 37), (.call 155 [(.tmp 31), (.tmp 32), (.tmp 36)]), none⟩, ⟨(some 30), (.mv (.tmp 37)), none⟩, ⟨(some 38), (.ext 0 (.tmp 30)), none⟩, ⟨(some 39), (.ext 1 (.tmp 30)), none⟩, ⟨(some 4), (.alc 116 (.agg #[(.int .i64 0), (.int .i64 0), (.int .i64 0)])), none⟩, ⟨none, (.stn 3 (.tmp 4) (.tmp 38)), none⟩, ⟨(some 5), (.mv (.tmp 39)), none⟩])
    (.seq (.seq
    (.reg [⟨(some 40), (.mv (.tmp 0)), none⟩, ⟨(some 41), (.ldn 3 (.tmp 4)), none⟩, ⟨(some 42), (.nilck (.tmp 40)), none⟩, ⟨(some 43), (.fad 10 (.tmp 42)), none⟩, ⟨none, (.stn 3 (.tmp 43) (.tmp 41)), none⟩])
    (.seq (.reg [⟨(some 44), (.mv (.tmp 5)), none⟩, ⟨(some 45), (.mv (.tmp 44)), none⟩, ⟨(some 46), (.fad 0 (.tmp 4)), (some (45, true))⟩, ⟨(some 47), (.ld1 (.tmp 46)), (some (45, true))⟩, ⟨(some 48), (.cmp .eql (.tmp 47) (.const (.int .i64 2))), (some (45, true))⟩, ⟨(some 49), (.pick (.tmp 45) (.tmp 48) (.const (.bool false))), none⟩])
    (.cond (.tmp 49)
    (.seq (.reg [⟨(some 50), (.mv (.tmp 0)), none⟩, ⟨(some 51), (.mv (.tmp 0)), none⟩, ⟨(some 52), (.nilck (.tmp 50)), none⟩, ⟨(some 53), (.fad 5 (.tmp 52)), none⟩, ⟨none, (.st1 (.tmp 53) (.const (.int .i64 11))), none⟩, ⟨(some 54), (.nilck (.tmp 51)), none⟩, ⟨(some 55), (.fad 9 (.tmp 54)), none⟩, ⟨none, (.st1 (.tmp 55) (.const (.int .i64 0))), none⟩]) .ret) .skip)))
    (.reg [⟨(some 56), (.mv (.tmp 0)), none⟩, ⟨(some 57), (.call 156 [(.tmp 56), (.const (.int .i64 10)), (.const (.int .i64 13))]), none⟩])))
    (.seq (.reg [⟨(some 59), (.cmp .eql (.tmp 9) (.const (.int .i64 11))), none⟩, ⟨(some 58), (.mv (.tmp 59)), none⟩])
    (.cond (.tmp 58)
    (.seq (.seq
    (.draw (.take ⟨(some 60), (.mv (.tmp 1)), none⟩ (.take ⟨(some 61), (.mv (.tmp 0)), none⟩ (.take ⟨(some 62), (.nilck (.tmp 61)), none⟩ (.take ⟨(some 63), (.fad 3 (.tmp 62)), none⟩ (.take ⟨(some 64), (.ld1 (.tmp 63)), none⟩ (.take ⟨(some 65), (.mv (.tmp 0)), none⟩ (.take ⟨(some 66), (.nilck (.tmp 65)), none⟩ (.take ⟨(some 67), (.fad 0 (.tmp 66)), none⟩ (.take ⟨(some 68), (.ldn 3 (.tmp 67)), none⟩ (.take ⟨(some 69), (.mv (.tmp 0)), none⟩ (.take ⟨(some 70), (.nilck (.tmp 69)), none⟩ (.take ⟨(some 71), (.fad 8 (.tmp 70)), none⟩ (.take ⟨(some 72), (.ld1 (.tmp 71)), none⟩ (.take ⟨(some 73), (.mv (.tmp 0)), none⟩ (.take ⟨(some 74), (.nilck (.tmp 73)), none⟩ (.take ⟨(some 75), (.fad 9 (.tmp 74)), none⟩ (.take ⟨(some 76), (.ld1 (.tmp 75)), none⟩ (.take ⟨(some 79), (.mv (.tmp 0)), none⟩ (.take ⟨(some 80), (.nilck (.tmp 79)), none⟩ (.take ⟨(some 81), (.fad 4 (.tmp 80)), none⟩ (.take ⟨(some 82), (.ld1 (.tmp 81)), none⟩ (.take ⟨(some 83), (.bld #[(.int .i64 0), (.int .i64 0)] [(0, (1, (.const (.int .i64 2)))), (1, (1, (.tmp 82)))]), none⟩ (.alt false ⟨(some 77), (.pcall 79 [(.tmp 68), (.tmp 72), (.tmp 76)]), none⟩ (.alt false ⟨(some 78), (.call 134 [(.tmp 60), (.tmp 64), (.tmp 77)]), none⟩ (.alt false ⟨(some 84), (.pcall 89 [(.tmp 83)]), none⟩ (.take ⟨(some 85), (.cmp .eql (.tmp 78) (.tmp 84)), none⟩ .done) .stop) .stop) .stop))))))))))))))))))))))))
    (.cond (.tmp 85)
    (.seq (.reg [⟨(some 86), (.mv (.tmp 0)), none⟩, ⟨(some 87), (.nilck (.tmp 86)), none⟩, ⟨(some 88), (.fad 5 (.tmp 87)), none⟩, ⟨none, (.st1 (.tmp 88) (.const (.int .i64 12))), none⟩]) .ret) .skip))
    (.reg [⟨(some 89), (.mv (.tmp 0)), none⟩, ⟨(some 90), (.call 158 [(.tmp 89)]), none⟩]))
    (.seq (.reg [⟨(some 92), (.cmp .eql (.tmp 9) (.const (.int .i64 12))), none⟩, ⟨(some 91), (.mv (.tmp 92)), none⟩])
    (.cond (.tmp 91)
    (.seq (.draw (.take ⟨(some 93), (.mv (.tmp 1)), none⟩ (.take ⟨(some 94), (.mv (.tmp 0)), none⟩ (.take ⟨(some 95), (.nilck (.tmp 94)), none⟩ (.take ⟨(some 96), (.fad 3 (.tmp 95)), none⟩ (.take ⟨(some 97), (.ld1 (.tmp 96)), none⟩ (.take ⟨(some 98), (.mv (.tmp 0)), none⟩ (.take ⟨(some 99), (.nilck (.tmp 98)), none⟩ (.take ⟨(some 100), (.fad 0 (.tmp 99)), none⟩ (.take ⟨(some 101), (.ldn 3 (.tmp 100)), none⟩ (.take ⟨(some 102), (.mv (.tmp 0)), none⟩ (.take ⟨(some 103), (.nilck (.tmp 102)), none⟩ (.take ⟨(some 104), (.fad 8 (.tmp 103)), none⟩ (.take ⟨(some 105), (.ld1 (.tmp 104)), none⟩ (.take ⟨(some 106), (.mv (.tmp 0)), none⟩ (.take ⟨(some 107), (.nilck (.tmp 106)), none⟩ (.take ⟨(some 108), (.fad 9 (.tmp 107)), none⟩ (.take ⟨(some 109), (.ld1 (.tmp 108)), none⟩ (.take ⟨(some 111), (.mv (.tmp 0)), none⟩ (.take ⟨(some 112), (.nilck (.tmp 111)), none⟩ (.take ⟨(some 113), (.fad 10 (.tmp 112)), none⟩ (.take ⟨(some 114), (.fad 1 (.tmp 113)), none⟩ (.take ⟨(some 115), (.ld1 (.tmp 114)), none⟩ (.take ⟨(some 116), (.bld #[(.int .i64 0), (.int .i64 0)] [(0, (1, (.const (.int .i64 1)))), (1, (1, (.tmp 115)))]), none⟩ (.alt false ⟨(some 110), (.pcall 79 [(.tmp 101), (.tmp 105), (.tmp 109)]), none⟩ (.alt false ⟨(some 117), (.pcall 89 [(.tmp 116)]), none⟩ (.alt true ⟨(some 118), (.call 78 [(.tmp 93), (.tmp 97), (.tmp 110), (.tmp 117)]), none⟩ .done .stop) .stop) .stop)))))))))))))))))))))))))
    (.reg [⟨(some 119), (.mv (.tmp 0)), none⟩, ⟨(some 120), (.call 158 [(.tmp 119)]), none⟩]))
    (.seq (.draw (.take ⟨(some 10), (.mv (.tmp 1)), none⟩ (.take ⟨(some 11), (.mv (.tmp 0)), none⟩ (.take ⟨(some 12), (.nilck (.tmp 11)), none⟩ (.take ⟨(some 13), (.fad 3 (.tmp 12)), none⟩ (.take ⟨(some 14), (.ld1 (.tmp 13)), none⟩ (.take ⟨(some 15), (.mv (.tmp 0)), none⟩ (.take ⟨(some 16), (.nilck (.tmp 15)), none⟩ (.take ⟨(some 17), (.fad 0 (.tmp 16)), none⟩ (.take ⟨(some 18), (.ldn 3 (.tmp 17)), none⟩ (.take ⟨(some 19), (.mv (.tmp 0)), none⟩ (.take ⟨(some 20), (.nilck (.tmp 19)), none⟩ (.take ⟨(some 21), (.fad 4 (.tmp 20)), none⟩ (.take ⟨(some 22), (.ld1 (.tmp 21)), none⟩ (.alt false ⟨(some 23), (.pcall 68 [(.tmp 18), (.tmp 22)]), none⟩ (.alt false ⟨(some 24), (.pcall 154 [(.const (.int .i64 4)), (.const (.int .i64 0))]), none⟩ (.alt true ⟨(some 25), (.call 78 [(.tmp 10), (.tmp 14), (.tmp 23), (.tmp 24)]), none⟩ .done .stop) .stop) .stop)))))))))))))))
    (.reg [⟨(some 26), (.mv (.tmp 0)), none⟩, ⟨(some 27), (.call 118 [(.tmp 26), (.const (.int .i64 0))]), none⟩]))))))))))⟩ := by kernel_rfl

/-- (*allotment/seek.Seeker).settle -/
theorem tr131 : trF Try.prog pures Try.f131 = some
  ⟨23, [],
    (.block 0
    (.loop (.seq
    (.seq .no
    (.cond (.tmp 20) .skip (.exit 0)))
    (.block 1
    (.reg [⟨(some 21), (.mv (.tmp 0)), none⟩, ⟨(some 22), (.call 161 [(.tmp 21)]), none⟩])))))⟩ := by kernel_rfl

/-- (*allotment/seek.Seeker).here -/
theorem tr133 : trF Try.prog pures Try.f133 = some
  ⟨18, [(.t 2)],
    (.seq (.reg [⟨(some 2), (.mv (.const (.int .i64 0))), none⟩])
    (.seq (.reg [⟨(some 3), (.mv (.tmp 0)), none⟩, ⟨(some 4), (.nilck (.tmp 3)), none⟩, ⟨(some 5), (.fad 5 (.tmp 4)), none⟩, ⟨(some 6), (.ld1 (.tmp 5)), none⟩, ⟨(some 7), (.mv (.tmp 0)), none⟩, ⟨(some 8), (.nilck (.tmp 7)), none⟩, ⟨(some 9), (.fad 7 (.tmp 8)), none⟩, ⟨(some 10), (.ld1 (.tmp 9)), none⟩, ⟨(some 11), (.ar .add (.tmp 6) (.tmp 10)), none⟩, ⟨(some 12), (.mv (.tmp 0)), none⟩, ⟨(some 13), (.nilck (.tmp 12)), none⟩, ⟨(some 14), (.fad 0 (.tmp 13)), none⟩, ⟨(some 15), (.fad 0 (.tmp 14)), none⟩, ⟨(some 16), (.ld1 (.tmp 15)), none⟩, ⟨(some 17), (.dv .rem (.tmp 11) (.tmp 16)), none⟩, ⟨(some 2), (.mv (.tmp 17)), none⟩]) .ret))⟩ := by kernel_rfl

/-- (*allotment/seek.Seeker).turn -/
theorem tr136 : trF Try.prog pures Try.f136 = some
  ⟨25, [],
    (.seq (.reg [⟨(some 2), (.mv (.tmp 0)), none⟩, ⟨(some 3), (.nilck (.tmp 2)), none⟩, ⟨(some 4), (.fad 6 (.tmp 3)), none⟩, ⟨none, (.st1 (.tmp 4) (.const .nilIface)), none⟩])
    (.seq (.reg [⟨(some 5), (.mv (.tmp 0)), none⟩, ⟨(some 6), (.nilck (.tmp 5)), none⟩, ⟨(some 7), (.fad 7 (.tmp 6)), none⟩, ⟨(some 8), (.ld1 (.tmp 7)), none⟩, ⟨(some 9), (.ar .add (.tmp 8) (.const (.int .i64 1))), none⟩, ⟨(some 10), (.nilck (.tmp 5)), none⟩, ⟨(some 11), (.fad 7 (.tmp 10)), none⟩, ⟨none, (.st1 (.tmp 11) (.tmp 9)), none⟩])
    (.draw (.take ⟨(some 12), (.mv (.tmp 0)), none⟩ (.take ⟨(some 13), (.mv (.tmp 0)), none⟩ (.take ⟨(some 14), (.nilck (.tmp 13)), none⟩ (.take ⟨(some 15), (.fad 7 (.tmp 14)), none⟩ (.take ⟨(some 16), (.ld1 (.tmp 15)), none⟩ (.take ⟨(some 17), (.mv (.tmp 0)), none⟩ (.take ⟨(some 18), (.nilck (.tmp 17)), none⟩ (.take ⟨(some 19), (.fad 0 (.tmp 18)), none⟩ (.take ⟨(some 20), (.fad 0 (.tmp 19)), none⟩ (.take ⟨(some 21), (.ld1 (.tmp 20)), none⟩ (.take ⟨(some 22), (.cmp .eql (.tmp 16) (.tmp 21)), none⟩ (.take ⟨(some 23), (.nilck (.tmp 12)), none⟩ (.take ⟨(some 24), (.fad 11 (.tmp 23)), none⟩ (.alt true ⟨none, (.st1 (.tmp 24) (.tmp 22)), none⟩ .done .stop)))))))))))))))))⟩ := by kernel_rfl

/-- (*allotment/adopt.Adopter).ask -/
theorem tr152 : trF Try.prog pures Try.f152 = some
  ⟨60, [],
    (.seq (.draw (.take ⟨(some 6), (.mv (.tmp 0)), none⟩ (.take ⟨(some 7), (.mv (.tmp 1)), none⟩ (.take ⟨(some 8), (.mv (.tmp 0)), none⟩ (.take ⟨(some 9), (.nilck (.tmp 8)), none⟩ (.take ⟨(some 10), (.fad 3 (.tmp 9)), none⟩ (.take ⟨(some 11), (.ld1 (.tmp 10)), none⟩ (.take ⟨(some 12), (.mv (.tmp 0)), none⟩ (.take ⟨(some 13), (.nilck (.tmp 12)), none⟩ (.take ⟨(some 14), (.fad 0 (.tmp 13)), none⟩ (.take ⟨(some 15), (.ldn 3 (.tmp 14)), none⟩ (.take ⟨(some 16), (.mv (.tmp 0)), none⟩ (.take ⟨(some 17), (.nilck (.tmp 16)), none⟩ (.take ⟨(some 18), (.fad 4 (.tmp 17)), none⟩ (.take ⟨(some 19), (.ld1 (.tmp 18)), none⟩ (.alt false ⟨(some 20), (.pcall 68 [(.tmp 15), (.tmp 19)]), none⟩ (.alt false ⟨(some 21), (.call 134 [(.tmp 7), (.tmp 11), (.tmp 20)]), none⟩ (.take ⟨(some 22), (.nilck (.tmp 6)), none⟩ (.take ⟨(some 23), (.fad 6 (.tmp 22)), none⟩ (.alt true ⟨none, (.st1 (.tmp 23) (.tmp 21)), none⟩ .done .stop))) .stop) .stop))))))))))))))))
    (.seq (.reg [⟨(some 25), (.mv (.tmp 0)), none⟩, ⟨(some 26), (.nilck (.tmp 25)), none⟩, ⟨(some 27), (.fad 6 (.tmp 26)), none⟩, ⟨(some 28), (.ld1 (.tmp 27)), none⟩, ⟨(some 29), (.pcall 153 [(.tmp 28)]), none⟩, ⟨(some 24), (.mv (.tmp 29)), none⟩, ⟨(some 30), (.ext 0 (.tmp 24)), none⟩, ⟨(some 31), (.ext 1 (.tmp 24)), none⟩, ⟨(some 4), (.mv (.tmp 30)), none⟩, ⟨(some 5), (.mv (.tmp 31)), none⟩])
    (.block 0
    (.seq (.reg [⟨(some 40), (.mv (.tmp 4)), none⟩, ⟨(some 41), (.cmp .eql (.tmp 40) (.const (.int .i64 2))), none⟩, ⟨(some 39), (.mv (.tmp 41)), none⟩])
    (.cond (.tmp 39)
    (.reg [⟨(some 42), (.mv (.tmp 0)), none⟩, ⟨(some 43), (.nilck (.tmp 42)), none⟩, ⟨(some 44), (.fad 5 (.tmp 43)), none⟩, ⟨none, (.st1 (.tmp 44) (.const (.int .i64 2))), none⟩])
    (.seq (.reg [⟨(some 46), (.mv (.tmp 4)), none⟩, ⟨(some 47), (.cmp .neq (.tmp 46) (.const (.int .i64 3))), none⟩, ⟨(some 45), (.mv (.tmp 47)), none⟩])
    (.cond (.tmp 45)
    (.reg [⟨(some 48), (.mv (.tmp 0)), none⟩, ⟨(some 49), (.call 118 [(.tmp 48), (.const (.int .i64 5))]), none⟩])
    (.seq (.reg [⟨(some 51), (.mv (.tmp 0)), none⟩, ⟨(some 52), (.nilck (.tmp 51)), none⟩, ⟨(some 53), (.fad 0 (.tmp 52)), none⟩, ⟨(some 54), (.ldn 3 (.tmp 53)), none⟩, ⟨(some 55), (.mv (.tmp 5)), none⟩, ⟨(some 56), (.pcall 68 [(.tmp 54), (.tmp 55)]), none⟩, ⟨(some 57), (.cmp .lss (.tmp 56) (.const (.int .i64 0))), none⟩, ⟨(some 50), (.mv (.tmp 57)), none⟩])
    (.cond (.tmp 50)
    (.reg [⟨(some 58), (.mv (.tmp 0)), none⟩, ⟨(some 59), (.call 118 [(.tmp 58), (.const (.int .i64 4))]), none⟩])
    (.reg [⟨(some 32), (.mv (.tmp 0)), none⟩, ⟨(some 33), (.mv (.tmp 0)), none⟩, ⟨(some 34), (.mv (.tmp 5)), none⟩, ⟨(some 35), (.nilck (.tmp 32)), none⟩, ⟨(some 36), (.fad 7 (.tmp 35)), none⟩, ⟨none, (.st1 (.tmp 36) (.tmp 34)), none⟩, ⟨(some 37), (.nilck (.tmp 33)), none⟩, ⟨(some 38), (.fad 5 (.tmp 37)), none⟩, ⟨none, (.st1 (.tmp 38) (.const (.int .i64 1))), none⟩]))))))))))⟩ := by kernel_rfl

/-- (*allotment/adopt.Adopter).read -/
theorem tr155 : trF Try.prog pures Try.f155 = some
  ⟨28, [(.cn 6 3), (.t 7)],
    (.seq (.reg [⟨(some 6), (.alc 116 (.agg #[(.int .i64 0), (.int .i64 0), (.int .i64 0)])), none⟩, ⟨(some 7), (.mv (.const (.bool false))), none⟩])
    (.seq (.draw (.take ⟨(some 8), (.mv (.tmp 0)), none⟩ (.take ⟨(some 9), (.nilck (.tmp 8)), none⟩ (.take ⟨(some 10), (.fad 0 (.tmp 9)), none⟩ (.take ⟨(some 11), (.ldn 3 (.tmp 10)), none⟩ (.take ⟨(some 12), (.mv (.tmp 2)), none⟩ (.take ⟨(some 13), (.mv (.tmp 1)), none⟩ (.take ⟨(some 14), (.mv (.tmp 0)), none⟩ (.take ⟨(some 15), (.nilck (.tmp 14)), none⟩ (.take ⟨(some 16), (.fad 3 (.tmp 15)), none⟩ (.take ⟨(some 17), (.ld1 (.tmp 16)), none⟩ (.take ⟨(some 18), (.mv (.tmp 0)), none⟩ (.take ⟨(some 19), (.nilck (.tmp 18)), none⟩ (.take ⟨(some 20), (.fad 0 (.tmp 19)), none⟩ (.take ⟨(some 21), (.ldn 3 (.tmp 20)), none⟩ (.take ⟨(some 22), (.mv (.tmp 2)), none⟩ (.alt false ⟨(some 23), (.pcall 71 [(.tmp 21), (.tmp 22)]), none⟩ (.alt false ⟨(some 24), (.call 134 [(.tmp 13), (.tmp 17), (.tmp 23)]), none⟩ (.alt false ⟨(some 25), (.pcall 132 [(.tmp 11), (.tmp 12), (.tmp 24)]), none⟩ (.take ⟨(some 26), (.ext 0 (.tmp 25)), none⟩ (.take ⟨(some 27), (.ext 1 (.tmp 25)), none⟩ (.alt false ⟨none, (.stn 3 (.tmp 6) (.tmp 26)), none⟩ (.take ⟨(some 7), (.mv (.tmp 27)), none⟩ .done) .stop))) .stop) .stop) .stop))))))))))))))))) .ret))⟩ := by kernel_rfl

/-- (*allotment/adopt.Adopter).turn -/
theorem tr156 : trF Try.prog pures Try.f156 = some
  ⟨53, [],
    (.seq (.reg [⟨(some 6), (.mv (.tmp 0)), none⟩, ⟨(some 7), (.nilck (.tmp 6)), none⟩, ⟨(some 8), (.fad 8 (.tmp 7)), none⟩, ⟨(some 9), (.ld1 (.tmp 8)), none⟩, ⟨(some 10), (.ar .add (.tmp 9) (.const (.int .i64 1))), none⟩, ⟨(some 11), (.nilck (.tmp 6)), none⟩, ⟨(some 12), (.fad 8 (.tmp 11)), none⟩, ⟨none, (.st1 (.tmp 12) (.tmp 10)), none⟩])
    (.seq (.reg [⟨(some 13), (.mv (.tmp 0)), none⟩, ⟨(some 14), (.mv (.tmp 1)), none⟩, ⟨(some 15), (.nilck (.tmp 13)), none⟩, ⟨(some 16), (.fad 5 (.tmp 15)), none⟩, ⟨none, (.st1 (.tmp 16) (.tmp 14)), none⟩])
    (.seq (.seq
    (.reg [⟨(some 17), (.mv (.tmp 0)), none⟩, ⟨(some 18), (.nilck (.tmp 17)), none⟩, ⟨(some 19), (.fad 8 (.tmp 18)), none⟩, ⟨(some 20), (.ld1 (.tmp 19)), none⟩, ⟨(some 21), (.mv (.tmp 0)), none⟩, ⟨(some 22), (.nilck (.tmp 21)), none⟩, ⟨(some 23), (.fad 0 (.tmp 22)), none⟩, ⟨(some 24), (.fad 0 (.tmp 23)), none⟩, ⟨(some 25), (.ld1 (.tmp 24)), none⟩, ⟨(some 26), (.cmp .eql (.tmp 20) (.tmp 25)), none⟩])
    (.cond (.tmp 26)
    (.reg [⟨(some 27), (.mv (.tmp 0)), none⟩, ⟨(some 28), (.mv (.tmp 0)), none⟩, ⟨(some 29), (.mv (.tmp 0)), none⟩, ⟨(some 30), (.mv (.tmp 2)), none⟩, ⟨(some 31), (.nilck (.tmp 27)), none⟩, ⟨(some 32), (.fad 8 (.tmp 31)), none⟩, ⟨none, (.st1 (.tmp 32) (.const (.int .i64 0))), none⟩, ⟨(some 33), (.nilck (.tmp 28)), none⟩, ⟨(some 34), (.fad 9 (.tmp 33)), none⟩, ⟨none, (.st1 (.tmp 34) (.const (.int .i64 0))), none⟩, ⟨(some 35), (.nilck (.tmp 29)), none⟩, ⟨(some 36), (.fad 5 (.tmp 35)), none⟩, ⟨none, (.st1 (.tmp 36) (.tmp 30)), none⟩]) .skip))
    (.seq (.reg [⟨(some 37), (.mv (.tmp 0)), none⟩, ⟨(some 38), (.nilck (.tmp 37)), none⟩, ⟨(some 39), (.fad 5 (.tmp 38)), none⟩, ⟨(some 40), (.ld1 (.tmp 39)), none⟩, ⟨(some 41), (.cmp .eql (.tmp 40) (.const (.int .i64 9))), none⟩, ⟨(some 42), (.mv (.tmp 41)), none⟩, ⟨(some 43), (.mv (.tmp 0)), (some (42, true))⟩, ⟨(some 44), (.nilck (.tmp 43)), (some (42, true))⟩, ⟨(some 45), (.fad 0 (.tmp 44)), (some (42, true))⟩, ⟨(some 46), (.fad 2 (.tmp 45)), (some (42, true))⟩, ⟨(some 47), (.ld1 (.tmp 46)), (some (42, true))⟩, ⟨(some 48), (.cmp .eql (.tmp 47) (.const (.int .i64 0))), (some (42, true))⟩, ⟨(some 49), (.pick (.tmp 42) (.tmp 48) (.const (.bool false))), none⟩])
    (.cond (.tmp 49)
    (.reg [⟨(some 50), (.mv (.tmp 0)), none⟩, ⟨(some 51), (.nilck (.tmp 50)), none⟩, ⟨(some 52), (.fad 5 (.tmp 51)), none⟩, ⟨none, (.st1 (.tmp 52) (.const (.int .i64 10))), none⟩]) .skip)))))⟩ := by kernel_rfl

/-- (*allotment/adopt.Adopter).own -/
theorem tr157 : trF Try.prog pures Try.f157 = some
  ⟨22, [(.t 6)],
    (.seq (.reg [⟨(some 4), (.box 116 (.tmp 1)), none⟩, ⟨(some 6), (.mv (.const (.bool false))), none⟩])
    (.seq (.reg [⟨(some 7), (.mv (.tmp 2)), none⟩, ⟨(some 8), (.mv (.tmp 7)), none⟩, ⟨(some 9), (.fad 0 (.tmp 4)), (some (8, true))⟩, ⟨(some 10), (.ld1 (.tmp 9)), (some (8, true))⟩, ⟨(some 11), (.cmp .eql (.tmp 10) (.const (.int .i64 1))), (some (8, true))⟩, ⟨(some 12), (.pick (.tmp 8) (.tmp 11) (.const (.bool false))), none⟩, ⟨(some 13), (.mv (.tmp 12)), none⟩, ⟨(some 14), (.fad 1 (.tmp 4)), (some (13, true))⟩, ⟨(some 15), (.ld1 (.tmp 14)), (some (13, true))⟩, ⟨(some 16), (.mv (.tmp 0)), (some (13, true))⟩, ⟨(some 17), (.nilck (.tmp 16)), (some (13, true))⟩, ⟨(some 18), (.fad 4 (.tmp 17)), (some (13, true))⟩, ⟨(some 19), (.ld1 (.tmp 18)), (some (13, true))⟩, ⟨(some 20), (.cmp .eql (.tmp 15) (.tmp 19)), (some (13, true))⟩, ⟨(some 21), (.pick (.tmp 13) (.tmp 20) (.const (.bool false))), none⟩, ⟨(some 6), (.mv (.tmp 21)), none⟩]) .ret))⟩ := by kernel_rfl

/-- (*allotment/adopt.Adopter).slot -/
theorem tr158 : trF Try.prog pures Try.f158 = some
  ⟨28, [],
    (.seq (.reg [⟨(some 2), (.mv (.tmp 0)), none⟩, ⟨(some 3), (.nilck (.tmp 2)), none⟩, ⟨(some 4), (.fad 9 (.tmp 3)), none⟩, ⟨(some 5), (.ld1 (.tmp 4)), none⟩, ⟨(some 6), (.ar .add (.tmp 5) (.const (.int .i64 1))), none⟩, ⟨(some 7), (.nilck (.tmp 2)), none⟩, ⟨(some 8), (.fad 9 (.tmp 7)), none⟩, ⟨none, (.st1 (.tmp 8) (.tmp 6)), none⟩])
    (.seq (.reg [⟨(some 9), (.mv (.tmp 0)), none⟩, ⟨(some 10), (.nilck (.tmp 9)), none⟩, ⟨(some 11), (.fad 5 (.tmp 10)), none⟩, ⟨none, (.st1 (.tmp 11) (.const (.int .i64 11))), none⟩])
    (.seq (.reg [⟨(some 12), (.mv (.tmp 0)), none⟩, ⟨(some 13), (.nilck (.tmp 12)), none⟩, ⟨(some 14), (.fad 9 (.tmp 13)), none⟩, ⟨(some 15), (.ld1 (.tmp 14)), none⟩, ⟨(some 16), (.mv (.tmp 0)), none⟩, ⟨(some 17), (.nilck (.tmp 16)), none⟩, ⟨(some 18), (.fad 10 (.tmp 17)), none⟩, ⟨(some 19), (.fad 1 (.tmp 18)), none⟩, ⟨(some 20), (.ld1 (.tmp 19)), none⟩, ⟨(some 21), (.pcall 129 [(.tmp 20)]), none⟩, ⟨(some 22), (.cmp .eql (.tmp 15) (.tmp 21)), none⟩])
    (.cond (.tmp 22)
    (.seq (.reg [⟨(some 23), (.mv (.tmp 0)), none⟩, ⟨(some 24), (.nilck (.tmp 23)), none⟩, ⟨(some 25), (.fad 9 (.tmp 24)), none⟩, ⟨none, (.st1 (.tmp 25) (.const (.int .i64 0))), none⟩])
    (.reg [⟨(some 26), (.mv (.tmp 0)), none⟩, ⟨(some 27), (.call 156 [(.tmp 26), (.const (.int .i64 10)), (.const (.int .i64 13))]), none⟩])) .skip))))⟩ := by kernel_rfl

/-- (*allotment/seek.Seeker).after -/
theorem tr161 : trF Try.prog pures Try.f161 = some
  ⟨120, [],
    (.seq (.reg [⟨(some 15), (.mv (.tmp 0)), none⟩, ⟨(some 16), (.nilck (.tmp 15)), none⟩, ⟨(some 17), (.fad 6 (.tmp 16)), none⟩, ⟨(some 18), (.ld1 (.tmp 17)), none⟩])
    (.block 0
    (.seq .no
    (.cond (.tmp 20)
    (.seq (.reg [⟨(some 2), (.mv (.tmp 21)), none⟩])
    (.seq (.seq
    (.reg [⟨(some 23), (.mv (.tmp 2)), none⟩, ⟨(some 24), (.call 166 [(.tmp 23)]), none⟩, ⟨(some 22), (.mv (.tmp 24)), none⟩, ⟨(some 25), (.ext 0 (.tmp 22)), none⟩, ⟨(some 26), (.ext 1 (.tmp 22)), none⟩, ⟨(some 27), (.ext 2 (.tmp 22)), none⟩, ⟨(some 3), (.mv (.tmp 25)), none⟩, ⟨(some 4), (.mv (.tmp 26)), none⟩, ⟨(some 5), (.mv (.tmp 27)), none⟩])
    (.seq (.reg [⟨(some 28), (.mv (.tmp 5)), none⟩])
    (.cond (.tmp 28)
    (.seq (.reg [⟨(some 29), (.mv (.tmp 0)), none⟩, ⟨(some 30), (.mv (.tmp 3)), none⟩, ⟨(some 31), (.mv (.tmp 4)), none⟩, ⟨(some 32), (.call 167 [(.tmp 29), (.tmp 30), (.tmp 31)]), none⟩]) .ret) .skip))) .no))
    (.seq .no
    (.cond (.tmp 55)
    (.seq (.reg [⟨(some 6), (.mv (.tmp 56)), none⟩])
    (.seq (.seq
    (.reg [⟨(some 58), (.mv (.tmp 6)), none⟩, ⟨(some 59), (.call 169 [(.tmp 58)]), none⟩, ⟨(some 57), (.mv (.tmp 59)), none⟩, ⟨(some 60), (.ext 0 (.tmp 57)), none⟩, ⟨(some 61), (.ext 1 (.tmp 57)), none⟩, ⟨(some 62), (.ext 2 (.tmp 57)), none⟩, ⟨(some 7), (.mv (.tmp 60)), none⟩, ⟨(some 8), (.mv (.tmp 61)), none⟩, ⟨(some 9), (.mv (.tmp 62)), none⟩])
    (.seq (.reg [⟨(some 63), (.mv (.tmp 9)), none⟩])
    (.cond (.tmp 63)
    (.seq (.reg [⟨(some 64), (.mv (.tmp 0)), none⟩, ⟨(some 65), (.mv (.tmp 7)), none⟩, ⟨(some 66), (.mv (.tmp 8)), none⟩, ⟨(some 67), (.call 167 [(.tmp 64), (.tmp 65), (.tmp 66)]), none⟩]) .ret) .skip))) .no))
    (.seq .no
    (.cond (.tmp 86)
    (.seq (.reg [⟨(some 10), (.mv (.tmp 87)), none⟩])
    (.seq (.seq
    (.reg [⟨(some 89), (.mv (.tmp 10)), none⟩, ⟨(some 90), (.call 171 [(.tmp 89)]), none⟩, ⟨(some 88), (.mv (.tmp 90)), none⟩, ⟨(some 91), (.ext 0 (.tmp 88)), none⟩, ⟨(some 92), (.ext 1 (.tmp 88)), none⟩, ⟨(some 11), (.mv (.tmp 91)), none⟩, ⟨(some 12), (.mv (.tmp 92)), none⟩])
    (.seq (.reg [⟨(some 93), (.mv (.tmp 12)), none⟩])
    (.cond (.tmp 93)
    (.seq (.reg [⟨(some 94), (.mv (.tmp 0)), none⟩, ⟨(some 95), (.mv (.tmp 11)), none⟩, ⟨(some 96), (.call 172 [(.tmp 94), (.tmp 95)]), none⟩]) .ret) .skip)))
    (.reg [⟨(some 97), (.mv (.tmp 0)), none⟩, ⟨(some 98), (.nilck (.tmp 97)), none⟩, ⟨(some 99), (.fad 6 (.tmp 98)), none⟩, ⟨none, (.st1 (.tmp 99) (.const .nilIface)), none⟩])))
    (.seq .no
    (.cond (.tmp 101)
    (.seq (.reg [⟨(some 13), (.mv (.tmp 102)), none⟩])
    (.seq (.seq
    (.reg [⟨(some 103), (.mv (.tmp 13)), none⟩, ⟨(some 104), (.call 76 [(.tmp 103)]), none⟩])
    (.cond (.tmp 104)
    (.seq (.reg [⟨(some 105), (.mv (.tmp 0)), none⟩, ⟨(some 106), (.mv (.tmp 0)), none⟩, ⟨(some 107), (.call 133 [(.tmp 106)]), none⟩, ⟨(some 108), (.call 172 [(.tmp 105), (.tmp 107)]), none⟩]) .ret) .skip))
    (.reg [⟨(some 109), (.mv (.tmp 0)), none⟩, ⟨(some 110), (.call 136 [(.tmp 109)]), none⟩])))
    (.seq .no
    (.cond (.tmp 112)
    (.seq (.reg [⟨(some 14), (.mv (.tmp 113)), none⟩])
    (.reg [⟨(some 114), (.mv (.tmp 0)), none⟩, ⟨(some 115), (.mv (.tmp 0)), none⟩, ⟨(some 116), (.nilck (.tmp 115)), none⟩, ⟨(some 117), (.fad 8 (.tmp 116)), none⟩, ⟨(some 118), (.ld1 (.tmp 117)), none⟩, ⟨(some 119), (.call 167 [(.tmp 114), (.tmp 118), (.const (.int .i64 0))]), none⟩])) .skip))))))))))))⟩ := by kernel_rfl

/-- (*allotment/seek.Seeker).end -/
theorem tr167 : trF Try.prog pures Try.f167 = some
  ⟨20, [],
    (.reg [⟨(some 6), (.mv (.tmp 0)), none⟩, ⟨(some 7), (.mv (.tmp 0)), none⟩, ⟨(some 8), (.mv (.tmp 0)), none⟩, ⟨(some 9), (.mv (.tmp 0)), none⟩, ⟨(some 10), (.mv (.tmp 1)), none⟩, ⟨(some 11), (.mv (.tmp 2)), none⟩, ⟨(some 12), (.nilck (.tmp 6)), none⟩, ⟨(some 13), (.fad 8 (.tmp 12)), none⟩, ⟨none, (.st1 (.tmp 13) (.tmp 10)), none⟩, ⟨(some 14), (.nilck (.tmp 7)), none⟩, ⟨(some 15), (.fad 9 (.tmp 14)), none⟩, ⟨none, (.st1 (.tmp 15) (.tmp 11)), none⟩, ⟨(some 16), (.nilck (.tmp 8)), none⟩, ⟨(some 17), (.fad 10 (.tmp 16)), none⟩, ⟨none, (.st1 (.tmp 17) (.const (.bool true))), none⟩, ⟨(some 18), (.nilck (.tmp 9)), none⟩, ⟨(some 19), (.fad 11 (.tmp 18)), none⟩, ⟨none, (.st1 (.tmp 19) (.const (.bool true))), none⟩])⟩ := by kernel_rfl

/-- (*allotment/seek.Seeker).bind -/
theorem tr172 : trF Try.prog pures Try.f172 = some
  ⟨26, [],
    (.seq (.reg [⟨(some 4), (.mv (.tmp 0)), none⟩, ⟨(some 5), (.mv (.tmp 1)), none⟩, ⟨(some 6), (.nilck (.tmp 4)), none⟩, ⟨(some 7), (.fad 8 (.tmp 6)), none⟩, ⟨none, (.st1 (.tmp 7) (.tmp 5)), none⟩]) .no)⟩ := by kernel_rfl


end Go.Proofs.Ytbehnodllajnjaa
