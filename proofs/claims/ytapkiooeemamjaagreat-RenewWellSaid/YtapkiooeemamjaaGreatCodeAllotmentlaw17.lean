/-
 The compact code of functions of this seat, as translated from the model: each translation holds by reckoning. Conditions: none.
-/
import Derived.Test.YtapkiooeemamjaaGreatCode
set_option maxRecDepth 100000
namespace Go.Proofs.YtapkiooeemamjaaGreat
open Go Go.Ev

/-- allotment/allotmentlaw17.RenewWell -/
theorem tr3 : trF Tryz.prog pures Tryz.f3 = some
 ⟨230, [(.t 6)],
  (.seq (.reg [⟨(some 3), (.box 23 (.tmp 0)), none⟩, ⟨(some 5), (.box 25 (.tmp 2)), none⟩, ⟨(some 6), (.mv (.const (.bool false))), none⟩])
  (.seq (.seq
  (.reg [⟨(some 20), (.call 4 []), none⟩, ⟨(some 21), (.nt (.tmp 20)), none⟩])
  (.cond (.tmp 21)
  (.seq (.reg [⟨(some 6), (.mv (.const (.bool false))), none⟩]) .ret) .skip))
  (.seq (.seq
  (.reg [⟨(some 22), (.ldn 3 (.tmp 3)), none⟩, ⟨(some 23), (.mv (.tmp 1)), none⟩, ⟨(some 24), (.call 5 [(.tmp 22), (.tmp 23)]), none⟩, ⟨(some 25), (.nt (.tmp 24)), none⟩, ⟨(some 26), (.mv (.tmp 25)), none⟩, ⟨(some 27), (.ldn 3 (.tmp 3)), (some (26, false))⟩, ⟨(some 28), (.mv (.tmp 1)), (some (26, false))⟩, ⟨(some 29), (.call 6 [(.tmp 27), (.tmp 28)]), (some (26, false))⟩, ⟨(some 30), (.nt (.tmp 29)), (some (26, false))⟩, ⟨(some 31), (.pick (.tmp 26) (.const (.bool true)) (.tmp 30)), none⟩, ⟨(some 32), (.mv (.tmp 31)), none⟩, ⟨(some 33), (.ldn 3 (.tmp 3)), (some (32, false))⟩, ⟨(some 34), (.iadA 4 1 (.tmp 5) (.const (.int .i64 0))), (some (32, false))⟩, ⟨(some 35), (.ld1 (.tmp 34)), (some (32, false))⟩, ⟨(some 36), (.pcall 7 [(.tmp 33), (.tmp 35)]), (some (32, false))⟩, ⟨(some 37), (.cmp .lss (.tmp 36) (.const (.int .i64 0))), (some (32, false))⟩, ⟨(some 38), (.pick (.tmp 32) (.const (.bool true)) (.tmp 37)), none⟩, ⟨(some 39), (.mv (.tmp 38)), none⟩, ⟨(some 40), (.ldn 3 (.tmp 3)), (some (39, false))⟩, ⟨(some 41), (.iadA 4 1 (.tmp 5) (.const (.int .i64 3))), (some (39, false))⟩, ⟨(some 42), (.ld1 (.tmp 41)), (some (39, false))⟩, ⟨(some 43), (.pcall 8 [(.tmp 40), (.tmp 42)]), (some (39, false))⟩, ⟨(some 44), (.cmp .lss (.tmp 43) (.const (.int .i64 0))), (some (39, false))⟩, ⟨(some 45), (.pick (.tmp 39) (.const (.bool true)) (.tmp 44)), none⟩])
  (.cond (.tmp 45)
  (.seq (.reg [⟨(some 6), (.mv (.const (.bool true))), none⟩]) .ret) .skip))
  (.seq (.reg [⟨(some 46), (.mv (.tmp 1)), none⟩, ⟨(some 47), (.call 9 [(.tmp 46)]), none⟩, ⟨(some 7), (.mv (.tmp 47)), none⟩])
  (.seq (.reg [⟨(some 48), (.ldn 3 (.tmp 3)), none⟩, ⟨(some 49), (.iadA 4 1 (.tmp 5) (.const (.int .i64 0))), none⟩, ⟨(some 50), (.ld1 (.tmp 49)), none⟩, ⟨(some 51), (.iadA 4 1 (.tmp 5) (.const (.int .i64 1))), none⟩, ⟨(some 52), (.ld1 (.tmp 51)), none⟩, ⟨(some 53), (.iadA 4 1 (.tmp 5) (.const (.int .i64 2))), none⟩, ⟨(some 54), (.ld1 (.tmp 53)), none⟩, ⟨(some 55), (.iadA 4 1 (.tmp 5) (.const (.int .i64 3))), none⟩, ⟨(some 56), (.ld1 (.tmp 55)), none⟩, ⟨(some 57), (.call 10 [(.tmp 48), (.tmp 50), (.tmp 52), (.tmp 54), (.tmp 56)]), none⟩, ⟨(some 8), (.mv (.tmp 57)), none⟩])
  (.seq (.seq
  (.reg [⟨(some 58), (.mv (.tmp 7)), none⟩, ⟨(some 59), (.pnil false (.tmp 58)), none⟩, ⟨(some 60), (.mv (.tmp 59)), none⟩, ⟨(some 61), (.mv (.tmp 8)), (some (60, false))⟩, ⟨(some 62), (.pnil false (.tmp 61)), (some (60, false))⟩, ⟨(some 63), (.pick (.tmp 60) (.const (.bool true)) (.tmp 62)), none⟩])
  (.cond (.tmp 63)
  (.seq (.reg [⟨(some 6), (.mv (.const (.bool false))), none⟩]) .ret) .skip))
  (.seq (.seq
  (.reg [⟨(some 9), (.mv (.const (.int .i64 0))), none⟩])
  (.block 0
  (.loop (.seq
  (.seq (.reg [⟨(some 64), (.mv (.tmp 9)), none⟩, ⟨(some 65), (.fad 2 (.tmp 3)), none⟩, ⟨(some 66), (.ld1 (.tmp 65)), none⟩, ⟨(some 67), (.ar .mul (.const (.int .i64 2)) (.tmp 66)), none⟩, ⟨(some 68), (.fad 0 (.tmp 3)), none⟩, ⟨(some 69), (.ld1 (.tmp 68)), none⟩, ⟨(some 70), (.ar .mul (.const (.int .i64 80)) (.tmp 69)), none⟩, ⟨(some 71), (.ar .add (.tmp 67) (.tmp 70)), none⟩, ⟨(some 72), (.ar .add (.tmp 71) (.const (.int .i64 120))), none⟩, ⟨(some 73), (.cmp .lss (.tmp 64) (.tmp 72)), none⟩])
  (.cond (.tmp 73) .skip (.exit 0)))
  (.seq (.block 1
  (.reg [⟨(some 76), (.mv (.tmp 8)), none⟩, ⟨(some 77), (.mv (.tmp 7)), none⟩, ⟨(some 78), (.call 11 [(.tmp 76), (.tmp 77)]), none⟩]))
  (.reg [⟨(some 74), (.mv (.tmp 9)), none⟩, ⟨(some 75), (.ar .add (.tmp 74) (.const (.int .i64 1))), none⟩, ⟨(some 9), (.mv (.tmp 75)), none⟩]))))))
  (.seq (.reg [⟨(some 80), (.mv (.tmp 8)), none⟩, ⟨(some 81), (.call 12 [(.tmp 80)]), none⟩, ⟨(some 79), (.mv (.tmp 81)), none⟩, ⟨(some 82), (.ext 0 (.tmp 79)), none⟩, ⟨(some 83), (.ext 1 (.tmp 79)), none⟩, ⟨(some 10), (.alc 35 (.agg #[(.bool false), (.int .i64 0), (.int .i64 0), (.int .i64 0), (.int .i64 0)])), none⟩, ⟨none, (.stn 5 (.tmp 10) (.tmp 82)), none⟩, ⟨(some 11), (.mv (.tmp 83)), none⟩])
  (.seq (.draw (.take ⟨(some 84), (.ldn 3 (.tmp 3)), none⟩ (.take ⟨(some 85), (.mv (.tmp 1)), none⟩ (.take ⟨(some 87), (.ldn 3 (.tmp 3)), none⟩ (.take ⟨(some 88), (.mv (.tmp 7)), none⟩ (.alt false ⟨(some 86), (.call 13 [(.tmp 84), (.tmp 85)]), none⟩ (.alt false ⟨(some 89), (.call 14 [(.tmp 88)]), none⟩ (.alt false ⟨(some 90), (.call 13 [(.tmp 87), (.tmp 89)]), none⟩ (.take ⟨(some 12), (.mv (.tmp 86)), none⟩ (.take ⟨(some 13), (.mv (.tmp 90)), none⟩ .done)) .stop) .stop) .stop))))))
  (.seq (.seq
  (.draw (.take ⟨(some 91), (.mv (.tmp 8)), none⟩ (.alt false ⟨(some 92), (.call 15 [(.tmp 91)]), none⟩ (.take ⟨(some 93), (.nt (.tmp 92)), none⟩ (.take ⟨(some 94), (.mv (.tmp 93)), none⟩ (.take ⟨(some 95), (.mv (.tmp 11)), (some (94, false))⟩ (.take ⟨(some 96), (.mv (.tmp 8)), (some (94, false))⟩ (.alt false ⟨(some 97), (.call 16 [(.tmp 96)]), (some (94, false))⟩ (.take ⟨(some 98), (.cmp .eql (.tmp 97) (.const (.int .i64 0))), (some (94, false))⟩ (.take ⟨(some 99), (.beq true (.tmp 95) (.tmp 98)), (some (94, false))⟩ (.take ⟨(some 100), (.pick (.tmp 94) (.const (.bool true)) (.tmp 99)), none⟩ (.take ⟨(some 101), (.mv (.tmp 100)), none⟩ (.take ⟨(some 102), (.mv (.tmp 11)), (some (101, false))⟩ (.take ⟨(some 103), (.mv (.tmp 8)), (some (101, false))⟩ (.alt false ⟨(some 104), (.call 17 [(.tmp 103)]), (some (101, false))⟩ (.take ⟨(some 105), (.beq true (.tmp 102) (.tmp 104)), (some (101, false))⟩ (.take ⟨(some 106), (.pick (.tmp 101) (.const (.bool true)) (.tmp 105)), none⟩ (.take ⟨(some 107), (.mv (.tmp 106)), none⟩ (.take ⟨(some 108), (.ldn 3 (.tmp 3)), (some (107, false))⟩ (.take ⟨(some 109), (.mv (.tmp 7)), (some (107, false))⟩ (.alt false ⟨(some 110), (.call 14 [(.tmp 109)]), (some (107, false))⟩ (.alt false ⟨(some 111), (.call 6 [(.tmp 108), (.tmp 110)]), (some (107, false))⟩ (.take ⟨(some 112), (.nt (.tmp 111)), (some (107, false))⟩ (.take ⟨(some 113), (.pick (.tmp 107) (.const (.bool true)) (.tmp 112)), none⟩ .done)) .stop) .stop)))))) .stop))))))) .stop))))) .stop)))
  (.cond (.tmp 113)
  (.seq (.reg [⟨(some 6), (.mv (.const (.bool false))), none⟩]) .ret) .skip))
  (.seq (.seq
  (.reg [⟨(some 114), (.mv (.tmp 11)), none⟩, ⟨(some 115), (.nt (.tmp 114)), none⟩])
  (.cond (.tmp 115)
  (.seq (.seq
  (.reg [⟨(some 116), (.mv (.tmp 12)), none⟩, ⟨(some 117), (.len (.tmp 116)), none⟩, ⟨(some 118), (.mv (.tmp 13)), none⟩, ⟨(some 119), (.len (.tmp 118)), none⟩, ⟨(some 120), (.cmp .neq (.tmp 117) (.tmp 119)), none⟩])
  (.cond (.tmp 120)
  (.seq (.reg [⟨(some 6), (.mv (.const (.bool false))), none⟩]) .ret) .skip))
  (.seq (.seq
  (.reg [⟨(some 14), (.mv (.const (.int .i64 0))), none⟩])
  (.block 2
  (.loop (.seq
  (.seq (.reg [⟨(some 121), (.mv (.tmp 14)), none⟩, ⟨(some 122), (.mv (.tmp 12)), none⟩, ⟨(some 123), (.len (.tmp 122)), none⟩, ⟨(some 124), (.cmp .lss (.tmp 121) (.tmp 123)), none⟩])
  (.cond (.tmp 124) .skip (.exit 2)))
  (.seq (.block 3
  (.seq (.reg [⟨(some 127), (.mv (.tmp 12)), none⟩, ⟨(some 128), (.mv (.tmp 14)), none⟩, ⟨(some 129), (.iad 2 (.tmp 127) (.tmp 128)), none⟩, ⟨(some 130), (.ldn 2 (.tmp 129)), none⟩, ⟨(some 131), (.mv (.tmp 13)), none⟩, ⟨(some 132), (.mv (.tmp 14)), none⟩, ⟨(some 133), (.iad 2 (.tmp 131) (.tmp 132)), none⟩, ⟨(some 134), (.ldn 2 (.tmp 133)), none⟩, ⟨(some 135), (.aeq true [(0, false), (1, false)] (.tmp 130) (.tmp 134)), none⟩])
  (.cond (.tmp 135)
  (.seq (.reg [⟨(some 6), (.mv (.const (.bool false))), none⟩]) .ret) .skip)))
  (.reg [⟨(some 125), (.mv (.tmp 14)), none⟩, ⟨(some 126), (.ar .add (.tmp 125) (.const (.int .i64 1))), none⟩, ⟨(some 14), (.mv (.tmp 126)), none⟩]))))))
  (.seq (.reg [⟨(some 6), (.mv (.const (.bool true))), none⟩]) .ret))) .skip))
  (.seq (.reg [⟨(some 136), (.fad 0 (.tmp 3)), none⟩, ⟨(some 137), (.ld1 (.tmp 136)), none⟩, ⟨(some 138), (.ar .mul (.tmp 137) (.const (.int .i64 64))), none⟩, ⟨(some 139), (.call 18 [(.tmp 138)]), none⟩, ⟨(some 15), (.mv (.tmp 139)), none⟩])
  (.seq (.seq
  (.reg [⟨(some 16), (.mv (.const (.int .i64 0))), none⟩])
  (.block 4
  (.loop (.seq
  (.seq (.reg [⟨(some 140), (.mv (.tmp 16)), none⟩, ⟨(some 141), (.mv (.tmp 12)), none⟩, ⟨(some 142), (.len (.tmp 141)), none⟩, ⟨(some 143), (.cmp .lss (.tmp 140) (.tmp 142)), none⟩])
  (.cond (.tmp 143) .skip (.exit 4)))
  (.seq (.block 5
  (.draw (.take ⟨(some 146), (.mv (.tmp 15)), none⟩ (.take ⟨(some 147), (.mv (.tmp 12)), none⟩ (.take ⟨(some 148), (.mv (.tmp 16)), none⟩ (.take ⟨(some 149), (.iad 2 (.tmp 147) (.tmp 148)), none⟩ (.take ⟨(some 150), (.iadA 2 1 (.tmp 149) (.const (.int .i64 0))), none⟩ (.take ⟨(some 151), (.ld1 (.tmp 150)), none⟩ (.take ⟨(some 152), (.mv (.tmp 12)), none⟩ (.take ⟨(some 153), (.mv (.tmp 16)), none⟩ (.take ⟨(some 154), (.iad 2 (.tmp 152) (.tmp 153)), none⟩ (.take ⟨(some 155), (.iadA 2 1 (.tmp 154) (.const (.int .i64 1))), none⟩ (.take ⟨(some 156), (.ld1 (.tmp 155)), none⟩ (.alt true ⟨(some 157), (.call 19 [(.tmp 146), (.tmp 151), (.tmp 156)]), none⟩ .done .stop))))))))))))))
  (.reg [⟨(some 144), (.mv (.tmp 16)), none⟩, ⟨(some 145), (.ar .add (.tmp 144) (.const (.int .i64 1))), none⟩, ⟨(some 16), (.mv (.tmp 145)), none⟩]))))))
  (.seq (.reg [⟨(some 159), (.iadA 4 1 (.tmp 5) (.const (.int .i64 2))), none⟩, ⟨(some 160), (.ld1 (.tmp 159)), none⟩, ⟨(some 161), (.pcall 20 [(.tmp 160)]), none⟩, ⟨(some 158), (.mv (.tmp 161)), none⟩, ⟨(some 162), (.ext 0 (.tmp 158)), none⟩, ⟨(some 163), (.ext 1 (.tmp 158)), none⟩, ⟨(some 17), (.mv (.tmp 162)), none⟩, ⟨(some 18), (.mv (.tmp 163)), none⟩])
  (.seq (.seq
  (.draw (.take ⟨(some 164), (.mv (.tmp 15)), none⟩ (.take ⟨(some 165), (.ldn 5 (.tmp 10)), none⟩ (.take ⟨(some 167), (.ldn 5 (.tmp 10)), none⟩ (.alt false ⟨(some 166), (.call 21 [(.tmp 165)]), none⟩ (.alt false ⟨(some 168), (.call 22 [(.tmp 167)]), none⟩ (.alt false ⟨(some 169), (.call 19 [(.tmp 164), (.tmp 166), (.tmp 168)]), none⟩ (.take ⟨(some 170), (.nt (.tmp 169)), none⟩ (.take ⟨(some 171), (.mv (.tmp 170)), none⟩ (.take ⟨(some 172), (.ldn 5 (.tmp 10)), (some (171, false))⟩ (.take ⟨(some 174), (.mv (.tmp 17)), (some (171, false))⟩ (.alt false ⟨(some 173), (.call 22 [(.tmp 172)]), (some (171, false))⟩ (.take ⟨(some 175), (.cmp .neq (.tmp 173) (.tmp 174)), (some (171, false))⟩ (.take ⟨(some 176), (.pick (.tmp 171) (.const (.bool true)) (.tmp 175)), none⟩ (.take ⟨(some 177), (.mv (.tmp 176)), none⟩ (.take ⟨(some 178), (.mv (.tmp 15)), (some (177, false))⟩ (.take ⟨(some 179), (.iadA 4 1 (.tmp 5) (.const (.int .i64 1))), (some (177, false))⟩ (.take ⟨(some 180), (.ld1 (.tmp 179)), (some (177, false))⟩ (.alt false ⟨(some 181), (.call 23 [(.tmp 178), (.tmp 180)]), (some (177, false))⟩ (.take ⟨(some 182), (.nt (.tmp 181)), (some (177, false))⟩ (.take ⟨(some 183), (.pick (.tmp 177) (.const (.bool true)) (.tmp 182)), none⟩ (.take ⟨(some 184), (.mv (.tmp 183)), none⟩ (.take ⟨(some 185), (.mv (.tmp 13)), (some (184, false))⟩ (.take ⟨(some 186), (.len (.tmp 185)), (some (184, false))⟩ (.take ⟨(some 187), (.mv (.tmp 15)), (some (184, false))⟩ (.take ⟨(some 188), (.nilck (.tmp 187)), (some (184, false))⟩ (.take ⟨(some 189), (.fad 0 (.tmp 188)), (some (184, false))⟩ (.take ⟨(some 190), (.ld1 (.tmp 189)), (some (184, false))⟩ (.take ⟨(some 191), (.len (.tmp 190)), (some (184, false))⟩ (.take ⟨(some 192), (.cmp .neq (.tmp 186) (.tmp 191)), (some (184, false))⟩ (.take ⟨(some 193), (.pick (.tmp 184) (.const (.bool true)) (.tmp 192)), none⟩ .done)))))))))))) .stop))))))) .stop))))) .stop) .stop) .stop)))))
  (.cond (.tmp 193)
  (.seq (.reg [⟨(some 6), (.mv (.const (.bool false))), none⟩]) .ret) .skip))
  (.seq (.seq
  (.reg [⟨(some 19), (.mv (.const (.int .i64 0))), none⟩])
  (.block 6
  (.loop (.seq
  (.seq (.reg [⟨(some 194), (.mv (.tmp 19)), none⟩, ⟨(some 195), (.mv (.tmp 13)), none⟩, ⟨(some 196), (.len (.tmp 195)), none⟩, ⟨(some 197), (.cmp .lss (.tmp 194) (.tmp 196)), none⟩])
  (.cond (.tmp 197) .skip (.exit 6)))
  (.seq (.block 7
  (.seq (.reg [⟨(some 200), (.mv (.tmp 13)), none⟩, ⟨(some 201), (.mv (.tmp 19)), none⟩, ⟨(some 202), (.iad 2 (.tmp 200) (.tmp 201)), none⟩, ⟨(some 203), (.iadA 2 1 (.tmp 202) (.const (.int .i64 0))), none⟩, ⟨(some 204), (.ld1 (.tmp 203)), none⟩, ⟨(some 205), (.mv (.tmp 15)), none⟩, ⟨(some 206), (.nilck (.tmp 205)), none⟩, ⟨(some 207), (.fad 0 (.tmp 206)), none⟩, ⟨(some 208), (.ld1 (.tmp 207)), none⟩, ⟨(some 209), (.mv (.tmp 19)), none⟩, ⟨(some 210), (.iad 2 (.tmp 208) (.tmp 209)), none⟩, ⟨(some 211), (.fad 0 (.tmp 210)), none⟩, ⟨(some 212), (.ld1 (.tmp 211)), none⟩, ⟨(some 213), (.cmp .neq (.tmp 204) (.tmp 212)), none⟩, ⟨(some 214), (.mv (.tmp 213)), none⟩, ⟨(some 215), (.mv (.tmp 13)), (some (214, false))⟩, ⟨(some 216), (.mv (.tmp 19)), (some (214, false))⟩, ⟨(some 217), (.iad 2 (.tmp 215) (.tmp 216)), (some (214, false))⟩, ⟨(some 218), (.iadA 2 1 (.tmp 217) (.const (.int .i64 1))), (some (214, false))⟩, ⟨(some 219), (.ld1 (.tmp 218)), (some (214, false))⟩, ⟨(some 220), (.mv (.tmp 15)), (some (214, false))⟩, ⟨(some 221), (.nilck (.tmp 220)), (some (214, false))⟩, ⟨(some 222), (.fad 0 (.tmp 221)), (some (214, false))⟩, ⟨(some 223), (.ld1 (.tmp 222)), (some (214, false))⟩, ⟨(some 224), (.mv (.tmp 19)), (some (214, false))⟩, ⟨(some 225), (.iad 2 (.tmp 223) (.tmp 224)), (some (214, false))⟩, ⟨(some 226), (.fad 1 (.tmp 225)), (some (214, false))⟩, ⟨(some 227), (.ld1 (.tmp 226)), (some (214, false))⟩, ⟨(some 228), (.cmp .neq (.tmp 219) (.tmp 227)), (some (214, false))⟩, ⟨(some 229), (.pick (.tmp 214) (.const (.bool true)) (.tmp 228)), none⟩])
  (.cond (.tmp 229)
  (.seq (.reg [⟨(some 6), (.mv (.const (.bool false))), none⟩]) .ret) .skip)))
  (.reg [⟨(some 198), (.mv (.tmp 19)), none⟩, ⟨(some 199), (.ar .add (.tmp 198) (.const (.int .i64 1))), none⟩, ⟨(some 19), (.mv (.tmp 199)), none⟩]))))))
  (.seq (.reg [⟨(some 6), (.mv (.const (.bool true))), none⟩]) .ret)))))))))))))))))⟩ := by kernel_rfl

/-- allotment/allotmentlaw17.awake -/
theorem tr4 : trF Tryz.prog pures Tryz.f4 = some
 ⟨69, [(.t 0)],
  (.seq (.reg [⟨(some 0), (.mv (.const (.bool false))), none⟩])
  (.seq (.reg [⟨(some 8), (.bld #[(.int .i64 0), (.int .i64 0), (.int .i64 0)] [(0, (1, (.const (.int .i64 3)))), (1, (1, (.const (.int .i64 1))))]), none⟩, ⟨(some 1), (.alc 23 (.agg #[(.int .i64 0), (.int .i64 0), (.int .i64 0)])), none⟩, ⟨none, (.stn 3 (.tmp 1) (.tmp 8)), none⟩])
  (.seq (.reg [⟨(some 9), (.ldn 3 (.tmp 1)), none⟩, ⟨(some 10), (.pcall 24 [(.tmp 9)]), none⟩, ⟨(some 11), (.mks 58 8 (.int .u64 0) (.tmp 10) (.tmp 10)), none⟩, ⟨(some 2), (.mv (.tmp 11)), none⟩])
  (.seq (.reg [⟨(some 12), (.mv (.tmp 2)), none⟩, ⟨(some 13), (.bld #[(.int .i64 0), (.int .i64 0), (.int .i64 0)] [(0, (1, (.const (.int .i64 3)))), (1, (1, (.const (.int .i64 1))))]), none⟩, ⟨(some 14), (.pcall 25 [(.tmp 13)]), none⟩, ⟨(some 15), (.iad 1 (.tmp 12) (.const (.int .i64 1))), none⟩, ⟨none, (.st1 (.tmp 15) (.tmp 14)), none⟩])
  (.seq (.reg [⟨(some 16), (.mv (.tmp 2)), none⟩, ⟨(some 17), (.call 9 [(.tmp 16)]), none⟩, ⟨(some 3), (.mv (.tmp 17)), none⟩])
  (.seq (.reg [⟨(some 18), (.ldn 3 (.tmp 1)), none⟩, ⟨(some 19), (.call 10 [(.tmp 18), (.const (.int .i64 0)), (.const (.int .i64 0)), (.const (.int .i64 100)), (.const (.int .i64 0))]), none⟩, ⟨(some 4), (.mv (.tmp 19)), none⟩])
  (.seq (.seq
  (.reg [⟨(some 20), (.mv (.tmp 3)), none⟩, ⟨(some 21), (.pnil false (.tmp 20)), none⟩, ⟨(some 22), (.mv (.tmp 21)), none⟩, ⟨(some 23), (.mv (.tmp 4)), (some (22, false))⟩, ⟨(some 24), (.pnil false (.tmp 23)), (some (22, false))⟩, ⟨(some 25), (.pick (.tmp 22) (.const (.bool true)) (.tmp 24)), none⟩])
  (.cond (.tmp 25)
  (.seq (.reg [⟨(some 0), (.mv (.const (.bool false))), none⟩]) .ret) .skip))
  (.seq (.seq
  (.reg [⟨(some 5), (.mv (.const (.int .i64 0))), none⟩])
  (.block 0
  (.loop (.seq
  (.seq (.reg [⟨(some 26), (.mv (.tmp 5)), none⟩, ⟨(some 27), (.cmp .lss (.tmp 26) (.const (.int .i64 40))), none⟩])
  (.cond (.tmp 27) .skip (.exit 0)))
  (.seq (.block 1
  (.reg [⟨(some 30), (.mv (.tmp 4)), none⟩, ⟨(some 31), (.mv (.tmp 3)), none⟩, ⟨(some 32), (.call 11 [(.tmp 30), (.tmp 31)]), none⟩]))
  (.reg [⟨(some 28), (.mv (.tmp 5)), none⟩, ⟨(some 29), (.ar .add (.tmp 28) (.const (.int .i64 1))), none⟩, ⟨(some 5), (.mv (.tmp 29)), none⟩]))))))
  (.seq (.reg [⟨(some 34), (.mv (.tmp 4)), none⟩, ⟨(some 35), (.call 12 [(.tmp 34)]), none⟩, ⟨(some 33), (.mv (.tmp 35)), none⟩, ⟨(some 36), (.ext 0 (.tmp 33)), none⟩, ⟨(some 37), (.ext 1 (.tmp 33)), none⟩, ⟨(some 6), (.alc 35 (.agg #[(.bool false), (.int .i64 0), (.int .i64 0), (.int .i64 0), (.int .i64 0)])), none⟩, ⟨none, (.stn 5 (.tmp 6) (.tmp 36)), none⟩, ⟨(some 7), (.mv (.tmp 37)), none⟩])
  (.seq (.reg [⟨(some 38), (.mv (.tmp 4)), none⟩, ⟨(some 39), (.call 15 [(.tmp 38)]), none⟩, ⟨(some 40), (.mv (.tmp 39)), none⟩, ⟨(some 41), (.mv (.tmp 7)), (some (40, true))⟩, ⟨(some 42), (.pick (.tmp 40) (.tmp 41) (.const (.bool false))), none⟩, ⟨(some 43), (.mv (.tmp 42)), none⟩, ⟨(some 44), (.mv (.tmp 4)), (some (43, true))⟩, ⟨(some 45), (.call 17 [(.tmp 44)]), (some (43, true))⟩, ⟨(some 46), (.pick (.tmp 43) (.tmp 45) (.const (.bool false))), none⟩, ⟨(some 47), (.mv (.tmp 46)), none⟩, ⟨(some 48), (.mv (.tmp 4)), (some (47, true))⟩, ⟨(some 49), (.call 16 [(.tmp 48)]), (some (47, true))⟩, ⟨(some 50), (.cmp .eql (.tmp 49) (.const (.int .i64 0))), (some (47, true))⟩, ⟨(some 51), (.pick (.tmp 47) (.tmp 50) (.const (.bool false))), none⟩, ⟨(some 52), (.mv (.tmp 51)), none⟩, ⟨(some 53), (.ldn 5 (.tmp 6)), (some (52, true))⟩, ⟨(some 54), (.call 21 [(.tmp 53)]), (some (52, true))⟩, ⟨(some 55), (.cmp .eql (.tmp 54) (.const (.int .i64 64))), (some (52, true))⟩, ⟨(some 56), (.pick (.tmp 52) (.tmp 55) (.const (.bool false))), none⟩, ⟨(some 57), (.mv (.tmp 56)), none⟩, ⟨(some 58), (.mv (.tmp 3)), (some (57, true))⟩, ⟨(some 59), (.call 26 [(.tmp 58), (.const (.int .i64 1))]), (some (57, true))⟩, ⟨(some 60), (.cmp .eql (.tmp 59) (.const (.int .u64 0))), (some (57, true))⟩, ⟨(some 61), (.pick (.tmp 57) (.tmp 60) (.const (.bool false))), none⟩, ⟨(some 62), (.mv (.tmp 61)), none⟩, ⟨(some 63), (.mv (.tmp 3)), (some (62, true))⟩, ⟨(some 64), (.call 26 [(.tmp 63), (.const (.int .i64 2))]), (some (62, true))⟩, ⟨(some 65), (.bld #[(.int .i64 0), (.int .i64 0), (.int .i64 0)] [(0, (1, (.const (.int .i64 3)))), (1, (1, (.const (.int .i64 2))))]), (some (62, true))⟩, ⟨(some 66), (.pcall 25 [(.tmp 65)]), (some (62, true))⟩, ⟨(some 67), (.cmp .eql (.tmp 64) (.tmp 66)), (some (62, true))⟩, ⟨(some 68), (.pick (.tmp 62) (.tmp 67) (.const (.bool false))), none⟩, ⟨(some 0), (.mv (.tmp 68)), none⟩]) .ret))))))))))⟩ := by kernel_rfl

end Go.Proofs.YtapkiooeemamjaaGreat
