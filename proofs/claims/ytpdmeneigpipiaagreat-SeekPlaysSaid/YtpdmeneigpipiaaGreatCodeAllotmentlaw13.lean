/-
  The compact code of functions of this seat, as translated from the model: each translation holds by reckoning. Conditions: none.
-/
import Derived.Test.YtpdmeneigpipiaaGreatCode
set_option maxRecDepth 100000
namespace Go.Proofs.YtpdmeneigpipiaaGreat
open Go Go.Ev

/-- allotment/allotmentlaw13.Blank -/
theorem tr120 : trF Tryz.prog pures Tryz.f120 = some
  ⟨6, [(.t 2)],
    (.seq (.reg [⟨(some 1), (.box 23 (.tmp 0)), none⟩, ⟨(some 2), (.mv (.const (.slice none 0 0))), none⟩])
    (.seq (.reg [⟨(some 3), (.ldn 3 (.tmp 1)), none⟩, ⟨(some 4), (.pcall 57 [(.tmp 3)]), none⟩, ⟨(some 5), (.mks 30 8 (.int .u64 0) (.tmp 4) (.tmp 4)), none⟩, ⟨(some 2), (.mv (.tmp 5)), none⟩]) .ret))⟩ := by kernel_rfl

/-- allotment/allotmentlaw13.awake -/
theorem tr31 : trF Tryz.prog pures Tryz.f31 = some
  ⟨51, [(.t 0)],
    (.seq (.reg [⟨(some 0), (.mv (.const (.bool false))), none⟩])
    (.seq (.reg [⟨(some 8), (.bld #[(.int .i64 0), (.int .i64 0), (.int .i64 0)] [(0, (1, (.const (.int .i64 1)))), (1, (1, (.const (.int .i64 1))))]), none⟩, ⟨(some 1), (.alc 23 (.agg #[(.int .i64 0), (.int .i64 0), (.int .i64 0)])), none⟩, ⟨none, (.stn 3 (.tmp 1) (.tmp 8)), none⟩])
    (.seq (.reg [⟨(some 9), (.ldn 3 (.tmp 1)), none⟩, ⟨(some 10), (.call 120 [(.tmp 9)]), none⟩, ⟨(some 11), (.call 22 [(.tmp 10)]), none⟩, ⟨(some 2), (.mv (.tmp 11)), none⟩])
    (.seq (.reg [⟨(some 12), (.ldn 3 (.tmp 1)), none⟩, ⟨(some 13), (.call 32 [(.tmp 12), (.const (.int .i64 0)), (.const (.int .i64 3)), (.const (.int .i64 0))]), none⟩, ⟨(some 3), (.mv (.tmp 13)), none⟩])
    (.seq (.seq
    (.reg [⟨(some 14), (.mv (.tmp 2)), none⟩, ⟨(some 15), (.pnil false (.tmp 14)), none⟩, ⟨(some 16), (.mv (.tmp 15)), none⟩, ⟨(some 17), (.mv (.tmp 3)), (some (16, false))⟩, ⟨(some 18), (.pnil false (.tmp 17)), (some (16, false))⟩, ⟨(some 19), (.pick (.tmp 16) (.const (.bool true)) (.tmp 18)), none⟩])
    (.cond (.tmp 19)
    (.seq (.reg [⟨(some 0), (.mv (.const (.bool false))), none⟩]) .ret) .skip))
    (.seq (.seq
    (.reg [⟨(some 4), (.mv (.const (.int .i64 0))), none⟩])
    (.block 0
    (.loop (.seq
    (.seq (.reg [⟨(some 20), (.mv (.tmp 4)), none⟩, ⟨(some 21), (.cmp .lss (.tmp 20) (.const (.int .i64 21))), none⟩])
    (.cond (.tmp 21) .skip (.exit 0)))
    (.seq (.block 1
    (.reg [⟨(some 24), (.mv (.tmp 3)), none⟩, ⟨(some 25), (.mv (.tmp 2)), none⟩, ⟨(some 26), (.call 36 [(.tmp 24), (.tmp 25)]), none⟩]))
    (.reg [⟨(some 22), (.mv (.tmp 4)), none⟩, ⟨(some 23), (.ar .add (.tmp 22) (.const (.int .i64 1))), none⟩, ⟨(some 4), (.mv (.tmp 23)), none⟩]))))))
    (.seq (.reg [⟨(some 28), (.mv (.tmp 3)), none⟩, ⟨(some 29), (.call 34 [(.tmp 28)]), none⟩, ⟨(some 27), (.mv (.tmp 29)), none⟩, ⟨(some 30), (.ext 0 (.tmp 27)), none⟩, ⟨(some 31), (.ext 1 (.tmp 27)), none⟩, ⟨(some 32), (.ext 2 (.tmp 27)), none⟩, ⟨(some 5), (.mv (.tmp 30)), none⟩, ⟨(some 6), (.mv (.tmp 31)), none⟩, ⟨(some 7), (.mv (.tmp 32)), none⟩])
    (.seq (.reg [⟨(some 33), (.mv (.tmp 3)), none⟩, ⟨(some 34), (.call 35 [(.tmp 33)]), none⟩, ⟨(some 35), (.mv (.tmp 34)), none⟩, ⟨(some 36), (.mv (.tmp 7)), (some (35, true))⟩, ⟨(some 37), (.pick (.tmp 35) (.tmp 36) (.const (.bool false))), none⟩, ⟨(some 38), (.mv (.tmp 37)), none⟩, ⟨(some 39), (.mv (.tmp 5)), (some (38, true))⟩, ⟨(some 40), (.cmp .eql (.tmp 39) (.const (.int .i64 0))), (some (38, true))⟩, ⟨(some 41), (.pick (.tmp 38) (.tmp 40) (.const (.bool false))), none⟩, ⟨(some 42), (.mv (.tmp 41)), none⟩, ⟨(some 43), (.mv (.tmp 6)), (some (42, true))⟩, ⟨(some 44), (.cmp .eql (.tmp 43) (.const (.int .i64 0))), (some (42, true))⟩, ⟨(some 45), (.pick (.tmp 42) (.tmp 44) (.const (.bool false))), none⟩, ⟨(some 46), (.mv (.tmp 45)), none⟩, ⟨(some 47), (.mv (.tmp 2)), (some (46, true))⟩, ⟨(some 48), (.call 39 [(.tmp 47)]), (some (46, true))⟩, ⟨(some 49), (.cmp .eql (.tmp 48) (.const (.int .i64 21))), (some (46, true))⟩, ⟨(some 50), (.pick (.tmp 46) (.tmp 49) (.const (.bool false))), none⟩, ⟨(some 0), (.mv (.tmp 50)), none⟩]) .ret))))))))⟩ := by kernel_rfl

/-- allotment/allotmentlaw13.SeekPlays -/
theorem tr4 : trF Tryz.prog pures Tryz.f4 = some
  ⟨132, [(.t 6)],
    (.seq (.reg [⟨(some 3), (.box 23 (.tmp 0)), none⟩, ⟨(some 5), (.box 63 (.tmp 2)), none⟩, ⟨(some 6), (.mv (.const (.bool false))), none⟩])
    (.seq (.seq
    (.reg [⟨(some 15), (.call 31 []), none⟩, ⟨(some 16), (.nt (.tmp 15)), none⟩])
    (.cond (.tmp 16)
    (.seq (.reg [⟨(some 6), (.mv (.const (.bool false))), none⟩]) .ret) .skip))
    (.seq (.seq
    (.reg [⟨(some 17), (.ldn 3 (.tmp 3)), none⟩, ⟨(some 18), (.mv (.tmp 1)), none⟩, ⟨(some 19), (.call 14 [(.tmp 17), (.tmp 18)]), none⟩, ⟨(some 20), (.nt (.tmp 19)), none⟩])
    (.cond (.tmp 20)
    (.seq (.reg [⟨(some 6), (.mv (.const (.bool true))), none⟩]) .ret) .skip))
    (.seq (.reg [⟨(some 21), (.mv (.tmp 1)), none⟩, ⟨(some 22), (.call 22 [(.tmp 21)]), none⟩, ⟨(some 23), (.mv (.tmp 1)), none⟩, ⟨(some 24), (.call 16 [(.tmp 23)]), none⟩, ⟨(some 7), (.mv (.tmp 22)), none⟩, ⟨(some 8), (.mv (.tmp 24)), none⟩])
    (.seq (.draw (.take ⟨(some 25), (.ldn 3 (.tmp 3)), none⟩ (.take ⟨(some 26), (.iadA 3 1 (.tmp 5) (.const (.int .i64 0))), none⟩ (.take ⟨(some 27), (.ld1 (.tmp 26)), none⟩ (.take ⟨(some 28), (.iadA 3 1 (.tmp 5) (.const (.int .i64 1))), none⟩ (.take ⟨(some 29), (.ld1 (.tmp 28)), none⟩ (.take ⟨(some 30), (.iadA 3 1 (.tmp 5) (.const (.int .i64 2))), none⟩ (.take ⟨(some 31), (.ld1 (.tmp 30)), none⟩ (.take ⟨(some 33), (.ldn 3 (.tmp 3)), none⟩ (.take ⟨(some 34), (.iadA 3 1 (.tmp 5) (.const (.int .i64 0))), none⟩ (.take ⟨(some 35), (.ld1 (.tmp 34)), none⟩ (.take ⟨(some 36), (.iadA 3 1 (.tmp 5) (.const (.int .i64 1))), none⟩ (.take ⟨(some 37), (.ld1 (.tmp 36)), none⟩ (.take ⟨(some 38), (.iadA 3 1 (.tmp 5) (.const (.int .i64 2))), none⟩ (.take ⟨(some 39), (.ld1 (.tmp 38)), none⟩ (.alt false ⟨(some 32), (.call 32 [(.tmp 25), (.tmp 27), (.tmp 29), (.tmp 31)]), none⟩ (.alt false ⟨(some 40), (.call 33 [(.tmp 33), (.tmp 35), (.tmp 37), (.tmp 39)]), none⟩ (.take ⟨(some 9), (.mv (.tmp 32)), none⟩ (.take ⟨(some 10), (.mv (.tmp 40)), none⟩ .done)) .stop) .stop))))))))))))))))
    (.seq (.seq
    (.reg [⟨(some 41), (.mv (.tmp 7)), none⟩, ⟨(some 42), (.pnil false (.tmp 41)), none⟩, ⟨(some 43), (.mv (.tmp 42)), none⟩, ⟨(some 44), (.mv (.tmp 9)), (some (43, false))⟩, ⟨(some 45), (.pnil false (.tmp 44)), (some (43, false))⟩, ⟨(some 46), (.pick (.tmp 43) (.const (.bool true)) (.tmp 45)), none⟩])
    (.cond (.tmp 46)
    (.seq (.reg [⟨(some 6), (.mv (.const (.bool false))), none⟩]) .ret) .skip))
    (.seq (.seq
    (.reg [⟨(some 11), (.mv (.const (.int .i64 0))), none⟩])
    (.block 0
    (.loop (.seq
    (.seq (.reg [⟨(some 47), (.mv (.tmp 11)), none⟩, ⟨(some 48), (.fad 2 (.tmp 3)), none⟩, ⟨(some 49), (.ld1 (.tmp 48)), none⟩, ⟨(some 50), (.fad 0 (.tmp 3)), none⟩, ⟨(some 51), (.ld1 (.tmp 50)), none⟩, ⟨(some 52), (.ar .mul (.const (.int .i64 80)) (.tmp 51)), none⟩, ⟨(some 53), (.ar .add (.tmp 49) (.tmp 52)), none⟩, ⟨(some 54), (.ar .add (.tmp 53) (.const (.int .i64 80))), none⟩, ⟨(some 55), (.cmp .lss (.tmp 47) (.tmp 54)), none⟩])
    (.cond (.tmp 55) .skip (.exit 0)))
    (.seq (.block 1
    (.seq (.reg [⟨(some 59), (.mv (.tmp 9)), none⟩, ⟨(some 60), (.call 34 [(.tmp 59)]), none⟩, ⟨(some 58), (.mv (.tmp 60)), none⟩, ⟨(some 61), (.ext 0 (.tmp 58)), none⟩, ⟨(some 62), (.ext 1 (.tmp 58)), none⟩, ⟨(some 63), (.ext 2 (.tmp 58)), none⟩, ⟨(some 12), (.mv (.tmp 61)), none⟩, ⟨(some 13), (.mv (.tmp 62)), none⟩, ⟨(some 14), (.mv (.tmp 63)), none⟩])
    (.seq (.seq
    (.reg [⟨(some 64), (.mv (.tmp 14)), none⟩, ⟨(some 65), (.mv (.tmp 10)), none⟩, ⟨(some 66), (.nilck (.tmp 65)), none⟩, ⟨(some 67), (.fad 8 (.tmp 66)), none⟩, ⟨(some 68), (.ld1 (.tmp 67)), none⟩, ⟨(some 69), (.beq true (.tmp 64) (.tmp 68)), none⟩, ⟨(some 70), (.mv (.tmp 69)), none⟩, ⟨(some 71), (.mv (.tmp 14)), (some (70, false))⟩, ⟨(some 72), (.mv (.tmp 71)), (some (70, false))⟩, ⟨(some 73), (.mv (.tmp 12)), (some (72, true))⟩, ⟨(some 74), (.mv (.tmp 10)), (some (72, true))⟩, ⟨(some 75), (.nilck (.tmp 74)), (some (72, true))⟩, ⟨(some 76), (.fad 6 (.tmp 75)), (some (72, true))⟩, ⟨(some 77), (.ld1 (.tmp 76)), (some (72, true))⟩, ⟨(some 78), (.cmp .neq (.tmp 73) (.tmp 77)), (some (72, true))⟩, ⟨(some 79), (.mv (.tmp 78)), (some (72, true))⟩, ⟨(some 80), (.mv (.tmp 13)), (some (79, false))⟩, ⟨(some 81), (.mv (.tmp 10)), (some (79, false))⟩, ⟨(some 82), (.nilck (.tmp 81)), (some (79, false))⟩, ⟨(some 83), (.fad 7 (.tmp 82)), (some (79, false))⟩, ⟨(some 84), (.ld1 (.tmp 83)), (some (79, false))⟩, ⟨(some 85), (.cmp .neq (.tmp 80) (.tmp 84)), (some (79, false))⟩, ⟨(some 86), (.pick (.tmp 79) (.const (.bool true)) (.tmp 85)), (some (72, true))⟩, ⟨(some 87), (.pick (.tmp 72) (.tmp 86) (.const (.bool false))), (some (70, false))⟩, ⟨(some 88), (.pick (.tmp 70) (.const (.bool true)) (.tmp 87)), none⟩, ⟨(some 89), (.mv (.tmp 88)), none⟩, ⟨(some 90), (.mv (.tmp 14)), (some (89, false))⟩, ⟨(some 91), (.nt (.tmp 90)), (some (89, false))⟩, ⟨(some 92), (.mv (.tmp 91)), (some (89, false))⟩, ⟨(some 93), (.mv (.tmp 12)), (some (92, true))⟩, ⟨(some 94), (.mv (.tmp 13)), (some (92, true))⟩, ⟨(some 95), (.ar .add (.tmp 93) (.tmp 94)), (some (92, true))⟩, ⟨(some 96), (.cmp .neq (.tmp 95) (.const (.int .i64 0))), (some (92, true))⟩, ⟨(some 97), (.pick (.tmp 92) (.tmp 96) (.const (.bool false))), (some (89, false))⟩, ⟨(some 98), (.pick (.tmp 89) (.const (.bool true)) (.tmp 97)), none⟩])
    (.cond (.tmp 98)
    (.seq (.reg [⟨(some 6), (.mv (.const (.bool false))), none⟩]) .ret) .skip))
    (.seq (.seq
    (.draw (.take ⟨(some 99), (.mv (.tmp 9)), none⟩ (.take ⟨(some 101), (.mv (.tmp 10)), none⟩ (.take ⟨(some 102), (.nilck (.tmp 101)), none⟩ (.take ⟨(some 103), (.fad 9 (.tmp 102)), none⟩ (.take ⟨(some 104), (.ld1 (.tmp 103)), none⟩ (.alt false ⟨(some 100), (.call 35 [(.tmp 99)]), none⟩ (.take ⟨(some 105), (.beq true (.tmp 100) (.tmp 104)), none⟩ .done) .stop)))))))
    (.cond (.tmp 105)
    (.seq (.reg [⟨(some 6), (.mv (.const (.bool false))), none⟩]) .ret) .skip))
    (.seq (.seq
    (.reg [⟨(some 106), (.mv (.tmp 9)), none⟩, ⟨(some 107), (.call 35 [(.tmp 106)]), none⟩])
    (.cond (.tmp 107) (.exit 0) .skip))
    (.seq (.reg [⟨(some 108), (.mv (.tmp 9)), none⟩, ⟨(some 109), (.mv (.tmp 7)), none⟩, ⟨(some 110), (.call 36 [(.tmp 108), (.tmp 109)]), none⟩])
    (.seq (.reg [⟨(some 111), (.mv (.tmp 10)), none⟩, ⟨(some 112), (.mv (.tmp 8)), none⟩, ⟨(some 113), (.call 37 [(.tmp 111), (.tmp 112)]), none⟩])
    (.seq (.reg [⟨(some 114), (.mv (.tmp 7)), none⟩, ⟨(some 115), (.mv (.tmp 8)), none⟩, ⟨(some 116), (.call 38 [(.tmp 114), (.tmp 115)]), none⟩, ⟨(some 117), (.nt (.tmp 116)), none⟩])
    (.cond (.tmp 117)
    (.seq (.reg [⟨(some 6), (.mv (.const (.bool false))), none⟩]) .ret) .skip)))))))))
    (.reg [⟨(some 56), (.mv (.tmp 11)), none⟩, ⟨(some 57), (.ar .add (.tmp 56) (.const (.int .i64 1))), none⟩, ⟨(some 11), (.mv (.tmp 57)), none⟩]))))))
    (.seq (.reg [⟨(some 118), (.mv (.tmp 9)), none⟩, ⟨(some 119), (.mv (.tmp 7)), none⟩, ⟨(some 120), (.call 36 [(.tmp 118), (.tmp 119)]), none⟩])
    (.seq (.draw (.take ⟨(some 121), (.mv (.tmp 9)), none⟩ (.alt false ⟨(some 122), (.call 35 [(.tmp 121)]), none⟩ (.take ⟨(some 123), (.mv (.tmp 122)), none⟩ (.take ⟨(some 124), (.mv (.tmp 7)), (some (123, true))⟩ (.take ⟨(some 126), (.mv (.tmp 8)), (some (123, true))⟩ (.take ⟨(some 127), (.nilck (.tmp 126)), (some (123, true))⟩ (.take ⟨(some 128), (.fad 1 (.tmp 127)), (some (123, true))⟩ (.take ⟨(some 129), (.ld1 (.tmp 128)), (some (123, true))⟩ (.alt false ⟨(some 125), (.call 39 [(.tmp 124)]), (some (123, true))⟩ (.take ⟨(some 130), (.cmp .eql (.tmp 125) (.tmp 129)), (some (123, true))⟩ (.take ⟨(some 131), (.pick (.tmp 123) (.tmp 130) (.const (.bool false))), none⟩ (.take ⟨(some 6), (.mv (.tmp 131)), none⟩ .done))) .stop))))))) .stop))) .ret)))))))))⟩ := by kernel_rfl

end Go.Proofs.YtpdmeneigpipiaaGreat
