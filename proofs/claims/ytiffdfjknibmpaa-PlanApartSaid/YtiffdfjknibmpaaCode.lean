/-
  The compact code of the functions of this seat, as translated from the model: each translation holds by reckoning. Conditions: none.
-/
import Derived.Test.YtiffdfjknibmpaaEv
import Derived.Test.YtiffdfjknibmpaaRows
set_option maxRecDepth 100000
namespace Go.Proofs.Ytiffdfjknibmpaa
open Go Go.Ev

def pures : List Nat := [13, 14, 15, 16, 17, 18, 19, 20, 21, 22, 23, 24, 25, 26, 28, 29, 30, 31, 32, 33, 34, 35, 36, 37, 38, 39, 40, 41, 42, 43, 44, 45, 46, 47, 48, 49]
theorem mixed : Try.prog.follows .mixedOrders = true := by kernel_rfl

/-- allotment/allotmentlaw19.CapGrows -/
theorem tr3 : trF Try.prog pures Try.f3 = some
  ⟨87, [(.t 4)],
    (.seq (.reg [⟨(some 2), (.box 23 (.tmp 0)), none⟩, ⟨(some 3), (.box 24 (.tmp 1)), none⟩, ⟨(some 4), (.mv (.const (.bool false))), none⟩])
    (.seq (.seq
    (.reg [⟨(some 7), (.pcall 13 []), none⟩, ⟨(some 8), (.nt (.tmp 7)), none⟩])
    (.cond (.tmp 8)
    (.seq (.reg [⟨(some 4), (.mv (.const (.bool false))), none⟩]) .ret) .skip))
    (.seq (.reg [⟨(some 9), (.fad 0 (.tmp 2)), none⟩, ⟨(some 10), (.ld1 (.tmp 9)), none⟩, ⟨(some 11), (.iadA 3 1 (.tmp 3) (.const (.int .i64 0))), none⟩, ⟨(some 12), (.ld1 (.tmp 11)), none⟩, ⟨(some 13), (.cv .i64 (.tmp 12)), none⟩, ⟨(some 14), (.dv .rem (.tmp 13) (.const (.int .i64 3))), none⟩, ⟨(some 15), (.ar .add (.tmp 10) (.tmp 14)), none⟩, ⟨(some 16), (.fad 1 (.tmp 2)), none⟩, ⟨(some 17), (.ld1 (.tmp 16)), none⟩, ⟨(some 18), (.iadA 3 1 (.tmp 3) (.const (.int .i64 1))), none⟩, ⟨(some 19), (.ld1 (.tmp 18)), none⟩, ⟨(some 20), (.cv .i64 (.tmp 19)), none⟩, ⟨(some 21), (.dv .rem (.tmp 20) (.const (.int .i64 3))), none⟩, ⟨(some 22), (.ar .add (.tmp 17) (.tmp 21)), none⟩, ⟨(some 23), (.fad 2 (.tmp 2)), none⟩, ⟨(some 24), (.ld1 (.tmp 23)), none⟩, ⟨(some 25), (.iadA 3 1 (.tmp 3) (.const (.int .i64 2))), none⟩, ⟨(some 26), (.ld1 (.tmp 25)), none⟩, ⟨(some 27), (.cv .i64 (.tmp 26)), none⟩, ⟨(some 28), (.dv .rem (.tmp 27) (.const (.int .i64 3))), none⟩, ⟨(some 29), (.ar .add (.tmp 24) (.tmp 28)), none⟩, ⟨(some 30), (.bld #[(.int .i64 0), (.int .i64 0), (.int .i64 0)] [(0, (1, (.tmp 15))), (1, (1, (.tmp 22))), (2, (1, (.tmp 29)))]), none⟩, ⟨(some 5), (.alc 23 (.agg #[(.int .i64 0), (.int .i64 0), (.int .i64 0)])), none⟩, ⟨none, (.stn 3 (.tmp 5) (.tmp 30)), none⟩])
    (.seq (.seq
    (.reg [⟨(some 31), (.fad 0 (.tmp 2)), none⟩, ⟨(some 32), (.ld1 (.tmp 31)), none⟩, ⟨(some 33), (.cmp .gtr (.tmp 32) (.const (.int .i64 100))), none⟩, ⟨(some 34), (.mv (.tmp 33)), none⟩, ⟨(some 35), (.fad 1 (.tmp 2)), (some (34, false))⟩, ⟨(some 36), (.ld1 (.tmp 35)), (some (34, false))⟩, ⟨(some 37), (.cmp .gtr (.tmp 36) (.const (.int .i64 100))), (some (34, false))⟩, ⟨(some 38), (.pick (.tmp 34) (.const (.bool true)) (.tmp 37)), none⟩, ⟨(some 39), (.mv (.tmp 38)), none⟩, ⟨(some 40), (.fad 2 (.tmp 2)), (some (39, false))⟩, ⟨(some 41), (.ld1 (.tmp 40)), (some (39, false))⟩, ⟨(some 42), (.cmp .gtr (.tmp 41) (.const (.int .i64 100))), (some (39, false))⟩, ⟨(some 43), (.pick (.tmp 39) (.const (.bool true)) (.tmp 42)), none⟩, ⟨(some 44), (.mv (.tmp 43)), none⟩, ⟨(some 45), (.ldn 3 (.tmp 2)), (some (44, false))⟩, ⟨(some 46), (.pcall 14 [(.tmp 45)]), (some (44, false))⟩, ⟨(some 47), (.cmp .eql (.tmp 46) (.const (.int .i64 0))), (some (44, false))⟩, ⟨(some 48), (.pick (.tmp 44) (.const (.bool true)) (.tmp 47)), none⟩, ⟨(some 49), (.mv (.tmp 48)), none⟩, ⟨(some 50), (.ldn 3 (.tmp 5)), (some (49, false))⟩, ⟨(some 51), (.pcall 14 [(.tmp 50)]), (some (49, false))⟩, ⟨(some 52), (.cmp .eql (.tmp 51) (.const (.int .i64 0))), (some (49, false))⟩, ⟨(some 53), (.pick (.tmp 49) (.const (.bool true)) (.tmp 52)), none⟩])
    (.cond (.tmp 53)
    (.seq (.reg [⟨(some 4), (.mv (.const (.bool true))), none⟩]) .ret) .skip))
    (.seq (.reg [⟨(some 54), (.fad 0 (.tmp 2)), none⟩, ⟨(some 55), (.ld1 (.tmp 54)), none⟩, ⟨(some 56), (.fad 1 (.tmp 5)), none⟩, ⟨(some 57), (.ld1 (.tmp 56)), none⟩, ⟨(some 58), (.fad 2 (.tmp 2)), none⟩, ⟨(some 59), (.ld1 (.tmp 58)), none⟩, ⟨(some 60), (.bld #[(.int .i64 0), (.int .i64 0), (.int .i64 0)] [(0, (1, (.tmp 55))), (1, (1, (.tmp 57))), (2, (1, (.tmp 59)))]), none⟩, ⟨(some 6), (.alc 23 (.agg #[(.int .i64 0), (.int .i64 0), (.int .i64 0)])), none⟩, ⟨none, (.stn 3 (.tmp 6) (.tmp 60)), none⟩])
    (.seq (.reg [⟨(some 61), (.ldn 3 (.tmp 5)), none⟩, ⟨(some 62), (.pcall 14 [(.tmp 61)]), none⟩, ⟨(some 63), (.ldn 3 (.tmp 2)), none⟩, ⟨(some 64), (.pcall 14 [(.tmp 63)]), none⟩, ⟨(some 65), (.cmp .geq (.tmp 62) (.tmp 64)), none⟩, ⟨(some 66), (.mv (.tmp 65)), none⟩, ⟨(some 67), (.ldn 3 (.tmp 5)), (some (66, true))⟩, ⟨(some 68), (.pcall 15 [(.tmp 67)]), (some (66, true))⟩, ⟨(some 69), (.ldn 3 (.tmp 2)), (some (66, true))⟩, ⟨(some 70), (.pcall 15 [(.tmp 69)]), (some (66, true))⟩, ⟨(some 71), (.cmp .geq (.tmp 68) (.tmp 70)), (some (66, true))⟩, ⟨(some 72), (.pick (.tmp 66) (.tmp 71) (.const (.bool false))), none⟩, ⟨(some 73), (.mv (.tmp 72)), none⟩, ⟨(some 74), (.ldn 3 (.tmp 6)), (some (73, true))⟩, ⟨(some 75), (.pcall 14 [(.tmp 74)]), (some (73, true))⟩, ⟨(some 76), (.ldn 3 (.tmp 2)), (some (73, true))⟩, ⟨(some 77), (.pcall 14 [(.tmp 76)]), (some (73, true))⟩, ⟨(some 78), (.cmp .eql (.tmp 75) (.tmp 77)), (some (73, true))⟩, ⟨(some 79), (.pick (.tmp 73) (.tmp 78) (.const (.bool false))), none⟩, ⟨(some 80), (.mv (.tmp 79)), none⟩, ⟨(some 81), (.ldn 3 (.tmp 6)), (some (80, true))⟩, ⟨(some 82), (.pcall 15 [(.tmp 81)]), (some (80, true))⟩, ⟨(some 83), (.ldn 3 (.tmp 2)), (some (80, true))⟩, ⟨(some 84), (.pcall 15 [(.tmp 83)]), (some (80, true))⟩, ⟨(some 85), (.cmp .eql (.tmp 82) (.tmp 84)), (some (80, true))⟩, ⟨(some 86), (.pick (.tmp 80) (.tmp 85) (.const (.bool false))), none⟩, ⟨(some 4), (.mv (.tmp 86)), none⟩]) .ret))))))⟩ := by kernel_rfl

/-- allotment/allotmentlaw3.PlanWords -/
theorem tr4 : trF Try.prog pures Try.f4 = some
  ⟨91, [(.t 2)],
    (.seq (.reg [⟨(some 1), (.box 23 (.tmp 0)), none⟩, ⟨(some 2), (.mv (.const (.bool false))), none⟩])
    (.seq (.seq
    (.reg [⟨(some 7), (.pcall 16 []), none⟩, ⟨(some 8), (.nt (.tmp 7)), none⟩])
    (.cond (.tmp 8)
    (.seq (.reg [⟨(some 2), (.mv (.const (.bool false))), none⟩]) .ret) .skip))
    (.seq (.draw (.take ⟨(some 9), (.ldn 3 (.tmp 1)), none⟩ (.take ⟨(some 10), (.ldn 3 (.tmp 1)), none⟩ (.take ⟨(some 11), (.ldn 3 (.tmp 1)), none⟩ (.alt ⟨(some 3), (.alc 23 (.agg #[(.int .i64 0), (.int .i64 0), (.int .i64 0)])), none⟩ (.alt ⟨(some 4), (.alc 23 (.agg #[(.int .i64 0), (.int .i64 0), (.int .i64 0)])), none⟩ (.alt ⟨(some 5), (.alc 23 (.agg #[(.int .i64 0), (.int .i64 0), (.int .i64 0)])), none⟩ (.alt ⟨none, (.stn 3 (.tmp 3) (.tmp 9)), none⟩ (.alt ⟨none, (.stn 3 (.tmp 4) (.tmp 10)), none⟩ (.alt ⟨none, (.stn 3 (.tmp 5) (.tmp 11)), none⟩ .done .stop) .stop) .stop) .stop) (.alt ⟨(some 5), (.alc 23 (.agg #[(.int .i64 0), (.int .i64 0), (.int .i64 0)])), none⟩ (.alt ⟨(some 4), (.alc 23 (.agg #[(.int .i64 0), (.int .i64 0), (.int .i64 0)])), none⟩ (.alt ⟨none, (.stn 3 (.tmp 3) (.tmp 9)), none⟩ (.alt ⟨none, (.stn 3 (.tmp 4) (.tmp 10)), none⟩ (.alt ⟨none, (.stn 3 (.tmp 5) (.tmp 11)), none⟩ .done .stop) .stop) .stop) .stop) .stop)) (.alt ⟨(some 4), (.alc 23 (.agg #[(.int .i64 0), (.int .i64 0), (.int .i64 0)])), none⟩ (.alt ⟨(some 3), (.alc 23 (.agg #[(.int .i64 0), (.int .i64 0), (.int .i64 0)])), none⟩ (.alt ⟨(some 5), (.alc 23 (.agg #[(.int .i64 0), (.int .i64 0), (.int .i64 0)])), none⟩ (.alt ⟨none, (.stn 3 (.tmp 3) (.tmp 9)), none⟩ (.alt ⟨none, (.stn 3 (.tmp 4) (.tmp 10)), none⟩ (.alt ⟨none, (.stn 3 (.tmp 5) (.tmp 11)), none⟩ .done .stop) .stop) .stop) .stop) (.alt ⟨(some 5), (.alc 23 (.agg #[(.int .i64 0), (.int .i64 0), (.int .i64 0)])), none⟩ (.alt ⟨(some 3), (.alc 23 (.agg #[(.int .i64 0), (.int .i64 0), (.int .i64 0)])), none⟩ (.alt ⟨none, (.stn 3 (.tmp 3) (.tmp 9)), none⟩ (.alt ⟨none, (.stn 3 (.tmp 4) (.tmp 10)), none⟩ (.alt ⟨none, (.stn 3 (.tmp 5) (.tmp 11)), none⟩ .done .stop) .stop) .stop) .stop) .stop)) (.alt ⟨(some 5), (.alc 23 (.agg #[(.int .i64 0), (.int .i64 0), (.int .i64 0)])), none⟩ (.alt ⟨(some 3), (.alc 23 (.agg #[(.int .i64 0), (.int .i64 0), (.int .i64 0)])), none⟩ (.alt ⟨(some 4), (.alc 23 (.agg #[(.int .i64 0), (.int .i64 0), (.int .i64 0)])), none⟩ (.alt ⟨none, (.stn 3 (.tmp 3) (.tmp 9)), none⟩ (.alt ⟨none, (.stn 3 (.tmp 4) (.tmp 10)), none⟩ (.alt ⟨none, (.stn 3 (.tmp 5) (.tmp 11)), none⟩ .done .stop) .stop) .stop) .stop) (.alt ⟨(some 4), (.alc 23 (.agg #[(.int .i64 0), (.int .i64 0), (.int .i64 0)])), none⟩ (.alt ⟨(some 3), (.alc 23 (.agg #[(.int .i64 0), (.int .i64 0), (.int .i64 0)])), none⟩ (.alt ⟨none, (.stn 3 (.tmp 3) (.tmp 9)), none⟩ (.alt ⟨none, (.stn 3 (.tmp 4) (.tmp 10)), none⟩ (.alt ⟨none, (.stn 3 (.tmp 5) (.tmp 11)), none⟩ .done .stop) .stop) .stop) .stop) .stop)) .stop)))))))
    (.seq (.seq
    (.reg [⟨(some 12), (.fad 0 (.tmp 1)), none⟩, ⟨(some 13), (.ld1 (.tmp 12)), none⟩, ⟨(some 14), (.cmp .gtr (.tmp 13) (.const (.int .i64 100))), none⟩, ⟨(some 15), (.mv (.tmp 14)), none⟩, ⟨(some 16), (.fad 1 (.tmp 1)), (some (15, false))⟩, ⟨(some 17), (.ld1 (.tmp 16)), (some (15, false))⟩, ⟨(some 18), (.cmp .gtr (.tmp 17) (.const (.int .i64 100))), (some (15, false))⟩, ⟨(some 19), (.pick (.tmp 15) (.const (.bool true)) (.tmp 18)), none⟩, ⟨(some 20), (.mv (.tmp 19)), none⟩, ⟨(some 21), (.fad 2 (.tmp 1)), (some (20, false))⟩, ⟨(some 22), (.ld1 (.tmp 21)), (some (20, false))⟩, ⟨(some 23), (.cmp .gtr (.tmp 22) (.const (.int .i64 100))), (some (20, false))⟩, ⟨(some 24), (.pick (.tmp 20) (.const (.bool true)) (.tmp 23)), none⟩, ⟨(some 25), (.mv (.tmp 24)), none⟩, ⟨(some 26), (.ldn 3 (.tmp 1)), (some (25, false))⟩, ⟨(some 27), (.pcall 17 [(.tmp 26)]), (some (25, false))⟩, ⟨(some 28), (.nt (.tmp 27)), (some (25, false))⟩, ⟨(some 29), (.pick (.tmp 25) (.const (.bool true)) (.tmp 28)), none⟩])
    (.cond (.tmp 29)
    (.seq (.reg [⟨(some 30), (.ldn 3 (.tmp 1)), none⟩, ⟨(some 31), (.pcall 17 [(.tmp 30)]), none⟩, ⟨(some 32), (.mv (.tmp 31)), none⟩, ⟨(some 33), (.ldn 3 (.tmp 1)), (some (32, false))⟩, ⟨(some 34), (.pcall 18 [(.tmp 33)]), (some (32, false))⟩, ⟨(some 35), (.cmp .eql (.tmp 34) (.const (.int .i64 0))), (some (32, false))⟩, ⟨(some 36), (.pick (.tmp 32) (.const (.bool true)) (.tmp 35)), none⟩, ⟨(some 2), (.mv (.tmp 36)), none⟩]) .ret) .skip))
    (.seq (.reg [⟨(some 37), (.fad 0 (.tmp 3)), none⟩, ⟨(some 38), (.ld1 (.tmp 37)), none⟩, ⟨(some 39), (.ar .add (.tmp 38) (.const (.int .i64 1))), none⟩, ⟨(some 40), (.fad 0 (.tmp 3)), none⟩, ⟨none, (.st1 (.tmp 40) (.tmp 39)), none⟩])
    (.seq (.reg [⟨(some 41), (.fad 1 (.tmp 4)), none⟩, ⟨(some 42), (.ld1 (.tmp 41)), none⟩, ⟨(some 43), (.ar .add (.tmp 42) (.const (.int .i64 1))), none⟩, ⟨(some 44), (.fad 1 (.tmp 4)), none⟩, ⟨none, (.st1 (.tmp 44) (.tmp 43)), none⟩])
    (.seq (.reg [⟨(some 45), (.fad 2 (.tmp 5)), none⟩, ⟨(some 46), (.ld1 (.tmp 45)), none⟩, ⟨(some 47), (.ar .add (.tmp 46) (.const (.int .i64 1))), none⟩, ⟨(some 48), (.fad 2 (.tmp 5)), none⟩, ⟨none, (.st1 (.tmp 48) (.tmp 47)), none⟩])
    (.seq (.reg [⟨(some 49), (.ldn 3 (.tmp 1)), none⟩, ⟨(some 50), (.pcall 18 [(.tmp 49)]), none⟩, ⟨(some 6), (.mv (.tmp 50)), none⟩])
    (.seq (.reg [⟨(some 51), (.ldn 3 (.tmp 3)), none⟩, ⟨(some 52), (.pcall 17 [(.tmp 51)]), none⟩, ⟨(some 53), (.nt (.tmp 52)), none⟩, ⟨(some 54), (.mv (.tmp 53)), none⟩, ⟨(some 55), (.ldn 3 (.tmp 3)), (some (54, false))⟩, ⟨(some 56), (.pcall 18 [(.tmp 55)]), (some (54, false))⟩, ⟨(some 57), (.mv (.tmp 6)), (some (54, false))⟩, ⟨(some 58), (.ar .add (.tmp 57) (.const (.int .i64 1))), (some (54, false))⟩, ⟨(some 59), (.ar .add (.tmp 58) (.const (.int .i64 16))), (some (54, false))⟩, ⟨(some 60), (.cmp .eql (.tmp 56) (.tmp 59)), (some (54, false))⟩, ⟨(some 61), (.pick (.tmp 54) (.const (.bool true)) (.tmp 60)), none⟩, ⟨(some 62), (.mv (.tmp 61)), none⟩, ⟨(some 63), (.ldn 3 (.tmp 4)), (some (62, true))⟩, ⟨(some 64), (.pcall 17 [(.tmp 63)]), (some (62, true))⟩, ⟨(some 65), (.nt (.tmp 64)), (some (62, true))⟩, ⟨(some 66), (.mv (.tmp 65)), (some (62, true))⟩, ⟨(some 67), (.ldn 3 (.tmp 4)), (some (66, false))⟩, ⟨(some 68), (.pcall 18 [(.tmp 67)]), (some (66, false))⟩, ⟨(some 69), (.mv (.tmp 6)), (some (66, false))⟩, ⟨(some 70), (.ar .add (.tmp 69) (.const (.int .i64 1))), (some (66, false))⟩, ⟨(some 71), (.fad 2 (.tmp 1)), (some (66, false))⟩, ⟨(some 72), (.ld1 (.tmp 71)), (some (66, false))⟩, ⟨(some 73), (.ar .add (.tmp 70) (.tmp 72)), (some (66, false))⟩, ⟨(some 74), (.cmp .eql (.tmp 68) (.tmp 73)), (some (66, false))⟩, ⟨(some 75), (.pick (.tmp 66) (.const (.bool true)) (.tmp 74)), (some (62, true))⟩, ⟨(some 76), (.pick (.tmp 62) (.tmp 75) (.const (.bool false))), none⟩, ⟨(some 77), (.mv (.tmp 76)), none⟩, ⟨(some 78), (.ldn 3 (.tmp 5)), (some (77, true))⟩, ⟨(some 79), (.pcall 17 [(.tmp 78)]), (some (77, true))⟩, ⟨(some 80), (.nt (.tmp 79)), (some (77, true))⟩, ⟨(some 81), (.mv (.tmp 80)), (some (77, true))⟩, ⟨(some 82), (.ldn 3 (.tmp 5)), (some (81, false))⟩, ⟨(some 83), (.pcall 18 [(.tmp 82)]), (some (81, false))⟩, ⟨(some 84), (.mv (.tmp 6)), (some (81, false))⟩, ⟨(some 85), (.fad 1 (.tmp 1)), (some (81, false))⟩, ⟨(some 86), (.ld1 (.tmp 85)), (some (81, false))⟩, ⟨(some 87), (.ar .add (.tmp 84) (.tmp 86)), (some (81, false))⟩, ⟨(some 88), (.cmp .eql (.tmp 83) (.tmp 87)), (some (81, false))⟩, ⟨(some 89), (.pick (.tmp 81) (.const (.bool true)) (.tmp 88)), (some (77, true))⟩, ⟨(some 90), (.pick (.tmp 77) (.tmp 89) (.const (.bool false))), none⟩, ⟨(some 2), (.mv (.tmp 90)), none⟩]) .ret)))))))))⟩ := by kernel_rfl

/-- allotment/allotmentlaw3.PlanFits -/
theorem tr5 : trF Try.prog pures Try.f5 = some
  ⟨105, [(.t 4)],
    (.seq (.reg [⟨(some 4), (.mv (.const (.bool false))), none⟩])
    (.seq (.seq
    (.reg [⟨(some 15), (.pcall 16 []), none⟩, ⟨(some 16), (.nt (.tmp 15)), none⟩])
    (.cond (.tmp 16)
    (.seq (.reg [⟨(some 4), (.mv (.const (.bool false))), none⟩]) .ret) .skip))
    (.seq (.reg [⟨(some 17), (.mv (.tmp 0)), none⟩, ⟨(some 18), (.cv .i64 (.tmp 17)), none⟩, ⟨(some 19), (.dv .rem (.tmp 18) (.const (.int .i64 600))), none⟩, ⟨(some 20), (.mv (.tmp 1)), none⟩, ⟨(some 21), (.cv .i64 (.tmp 20)), none⟩, ⟨(some 22), (.dv .rem (.tmp 21) (.const (.int .i64 600))), none⟩, ⟨(some 5), (.mv (.tmp 19)), none⟩, ⟨(some 6), (.mv (.tmp 22)), none⟩])
    (.seq (.reg [⟨(some 24), (.mv (.tmp 5)), none⟩, ⟨(some 25), (.pcall 19 [(.tmp 24)]), none⟩, ⟨(some 23), (.mv (.tmp 25)), none⟩, ⟨(some 26), (.ext 0 (.tmp 23)), none⟩, ⟨(some 27), (.ext 1 (.tmp 23)), none⟩, ⟨(some 7), (.mv (.tmp 26)), none⟩, ⟨(some 8), (.mv (.tmp 27)), none⟩])
    (.seq (.seq
    (.reg [⟨(some 28), (.mv (.tmp 8)), none⟩, ⟨(some 29), (.mv (.tmp 28)), none⟩, ⟨(some 30), (.mv (.tmp 7)), (some (29, true))⟩, ⟨(some 31), (.pcall 20 [(.tmp 30)]), (some (29, true))⟩, ⟨(some 32), (.mv (.tmp 5)), (some (29, true))⟩, ⟨(some 33), (.cmp .lss (.tmp 31) (.tmp 32)), (some (29, true))⟩, ⟨(some 34), (.mv (.tmp 33)), (some (29, true))⟩, ⟨(some 35), (.mv (.tmp 7)), (some (34, false))⟩, ⟨(some 36), (.cmp .gtr (.tmp 35) (.const (.int .i64 0))), (some (34, false))⟩, ⟨(some 37), (.mv (.tmp 36)), (some (34, false))⟩, ⟨(some 38), (.mv (.tmp 7)), (some (37, true))⟩, ⟨(some 39), (.ar .sub (.tmp 38) (.const (.int .i64 1))), (some (37, true))⟩, ⟨(some 40), (.pcall 20 [(.tmp 39)]), (some (37, true))⟩, ⟨(some 41), (.mv (.tmp 5)), (some (37, true))⟩, ⟨(some 42), (.cmp .geq (.tmp 40) (.tmp 41)), (some (37, true))⟩, ⟨(some 43), (.pick (.tmp 37) (.tmp 42) (.const (.bool false))), (some (34, false))⟩, ⟨(some 44), (.pick (.tmp 34) (.const (.bool true)) (.tmp 43)), (some (29, true))⟩, ⟨(some 45), (.pick (.tmp 29) (.tmp 44) (.const (.bool false))), none⟩])
    (.cond (.tmp 45)
    (.seq (.reg [⟨(some 4), (.mv (.const (.bool false))), none⟩]) .ret) .skip))
    (.seq (.reg [⟨(some 47), (.mv (.tmp 5)), none⟩, ⟨(some 48), (.pcall 21 [(.tmp 47)]), none⟩, ⟨(some 46), (.mv (.tmp 48)), none⟩, ⟨(some 49), (.ext 0 (.tmp 46)), none⟩, ⟨(some 50), (.ext 1 (.tmp 46)), none⟩, ⟨(some 9), (.mv (.tmp 49)), none⟩, ⟨(some 10), (.mv (.tmp 50)), none⟩])
    (.seq (.seq
    (.reg [⟨(some 51), (.mv (.tmp 10)), none⟩, ⟨(some 52), (.mv (.tmp 51)), none⟩, ⟨(some 53), (.mv (.tmp 9)), (some (52, true))⟩, ⟨(some 54), (.ar .mul (.tmp 53) (.const (.int .i64 64))), (some (52, true))⟩, ⟨(some 55), (.mv (.tmp 5)), (some (52, true))⟩, ⟨(some 56), (.cmp .lss (.tmp 54) (.tmp 55)), (some (52, true))⟩, ⟨(some 57), (.mv (.tmp 56)), (some (52, true))⟩, ⟨(some 58), (.mv (.tmp 9)), (some (57, false))⟩, ⟨(some 59), (.ar .sub (.tmp 58) (.const (.int .i64 1))), (some (57, false))⟩, ⟨(some 60), (.ar .mul (.tmp 59) (.const (.int .i64 64))), (some (57, false))⟩, ⟨(some 61), (.mv (.tmp 5)), (some (57, false))⟩, ⟨(some 62), (.cmp .geq (.tmp 60) (.tmp 61)), (some (57, false))⟩, ⟨(some 63), (.pick (.tmp 57) (.const (.bool true)) (.tmp 62)), (some (52, true))⟩, ⟨(some 64), (.pick (.tmp 52) (.tmp 63) (.const (.bool false))), none⟩, ⟨(some 65), (.mv (.tmp 64)), none⟩, ⟨(some 66), (.mv (.tmp 8)), (some (65, false))⟩, ⟨(some 67), (.mv (.tmp 66)), (some (65, false))⟩, ⟨(some 68), (.mv (.tmp 10)), (some (67, true))⟩, ⟨(some 69), (.pick (.tmp 67) (.tmp 68) (.const (.bool false))), (some (65, false))⟩, ⟨(some 70), (.pick (.tmp 65) (.const (.bool true)) (.tmp 69)), none⟩])
    (.cond (.tmp 70)
    (.seq (.reg [⟨(some 4), (.mv (.const (.bool false))), none⟩]) .ret) .skip))
    (.seq (.reg [⟨(some 72), (.mv (.tmp 5)), none⟩, ⟨(some 73), (.pcall 22 [(.tmp 72)]), none⟩, ⟨(some 71), (.mv (.tmp 73)), none⟩, ⟨(some 74), (.ext 0 (.tmp 71)), none⟩, ⟨(some 75), (.ext 1 (.tmp 71)), none⟩, ⟨(some 11), (.mv (.tmp 74)), none⟩, ⟨(some 12), (.mv (.tmp 75)), none⟩])
    (.seq (.reg [⟨(some 77), (.mv (.tmp 6)), none⟩, ⟨(some 78), (.pcall 22 [(.tmp 77)]), none⟩, ⟨(some 76), (.mv (.tmp 78)), none⟩, ⟨(some 79), (.ext 0 (.tmp 76)), none⟩, ⟨(some 80), (.ext 1 (.tmp 76)), none⟩, ⟨(some 13), (.mv (.tmp 79)), none⟩, ⟨(some 14), (.mv (.tmp 80)), none⟩])
    (.seq (.reg [⟨(some 81), (.mv (.tmp 12)), none⟩, ⟨(some 82), (.mv (.tmp 8)), none⟩, ⟨(some 83), (.mv (.tmp 82)), none⟩, ⟨(some 84), (.mv (.tmp 10)), (some (83, false))⟩, ⟨(some 85), (.pick (.tmp 83) (.const (.bool true)) (.tmp 84)), none⟩, ⟨(some 86), (.beq false (.tmp 81) (.tmp 85)), none⟩, ⟨(some 87), (.mv (.tmp 86)), none⟩, ⟨(some 88), (.mv (.tmp 12)), (some (87, true))⟩, ⟨(some 89), (.nt (.tmp 88)), (some (87, true))⟩, ⟨(some 90), (.mv (.tmp 89)), (some (87, true))⟩, ⟨(some 91), (.mv (.tmp 14)), (some (90, false))⟩, ⟨(some 92), (.nt (.tmp 91)), (some (90, false))⟩, ⟨(some 93), (.pick (.tmp 90) (.const (.bool true)) (.tmp 92)), (some (87, true))⟩, ⟨(some 94), (.mv (.tmp 93)), (some (87, true))⟩, ⟨(some 95), (.mv (.tmp 5)), (some (94, false))⟩, ⟨(some 96), (.mv (.tmp 6)), (some (94, false))⟩, ⟨(some 97), (.cmp .gtr (.tmp 95) (.tmp 96)), (some (94, false))⟩, ⟨(some 98), (.pick (.tmp 94) (.const (.bool true)) (.tmp 97)), (some (87, true))⟩, ⟨(some 99), (.mv (.tmp 98)), (some (87, true))⟩, ⟨(some 100), (.mv (.tmp 11)), (some (99, false))⟩, ⟨(some 101), (.mv (.tmp 13)), (some (99, false))⟩, ⟨(some 102), (.cmp .leq (.tmp 100) (.tmp 101)), (some (99, false))⟩, ⟨(some 103), (.pick (.tmp 99) (.const (.bool true)) (.tmp 102)), (some (87, true))⟩, ⟨(some 104), (.pick (.tmp 87) (.tmp 103) (.const (.bool false))), none⟩, ⟨(some 4), (.mv (.tmp 104)), none⟩]) .ret))))))))))⟩ := by kernel_rfl

/-- allotment/allotmentlaw3.PlanSplits -/
theorem tr6 : trF Try.prog pures Try.f6 = some
  ⟨85, [(.t 4)],
    (.seq (.reg [⟨(some 2), (.box 23 (.tmp 0)), none⟩, ⟨(some 4), (.mv (.const (.bool false))), none⟩])
    (.seq (.seq
    (.reg [⟨(some 9), (.pcall 16 []), none⟩, ⟨(some 10), (.nt (.tmp 9)), none⟩])
    (.cond (.tmp 10)
    (.seq (.reg [⟨(some 4), (.mv (.const (.bool false))), none⟩]) .ret) .skip))
    (.seq (.reg [⟨(some 12), (.ldn 3 (.tmp 2)), none⟩, ⟨(some 13), (.mv (.tmp 1)), none⟩, ⟨(some 14), (.pcall 23 [(.tmp 12), (.tmp 13)]), none⟩, ⟨(some 11), (.mv (.tmp 14)), none⟩, ⟨(some 15), (.ext 0 (.tmp 11)), none⟩, ⟨(some 16), (.ext 1 (.tmp 11)), none⟩, ⟨(some 17), (.ext 2 (.tmp 11)), none⟩, ⟨(some 5), (.mv (.tmp 15)), none⟩, ⟨(some 6), (.mv (.tmp 16)), none⟩, ⟨(some 7), (.mv (.tmp 17)), none⟩])
    (.seq (.seq
    (.reg [⟨(some 18), (.mv (.tmp 7)), none⟩, ⟨(some 19), (.ldn 3 (.tmp 2)), none⟩, ⟨(some 20), (.pcall 24 [(.tmp 19)]), none⟩, ⟨(some 21), (.mv (.tmp 20)), none⟩, ⟨(some 22), (.mv (.tmp 1)), (some (21, true))⟩, ⟨(some 23), (.cmp .geq (.tmp 22) (.const (.int .i64 0))), (some (21, true))⟩, ⟨(some 24), (.pick (.tmp 21) (.tmp 23) (.const (.bool false))), none⟩, ⟨(some 25), (.mv (.tmp 24)), none⟩, ⟨(some 26), (.mv (.tmp 1)), (some (25, true))⟩, ⟨(some 27), (.fad 0 (.tmp 2)), (some (25, true))⟩, ⟨(some 28), (.ld1 (.tmp 27)), (some (25, true))⟩, ⟨(some 29), (.ar .mul (.tmp 28) (.const (.int .i64 64))), (some (25, true))⟩, ⟨(some 30), (.cmp .lss (.tmp 26) (.tmp 29)), (some (25, true))⟩, ⟨(some 31), (.pick (.tmp 25) (.tmp 30) (.const (.bool false))), none⟩, ⟨(some 32), (.beq true (.tmp 18) (.tmp 31)), none⟩])
    (.cond (.tmp 32)
    (.seq (.reg [⟨(some 4), (.mv (.const (.bool false))), none⟩]) .ret) .skip))
    (.seq (.seq
    (.reg [⟨(some 33), (.mv (.tmp 7)), none⟩, ⟨(some 34), (.nt (.tmp 33)), none⟩])
    (.cond (.tmp 34)
    (.seq (.reg [⟨(some 35), (.mv (.tmp 5)), none⟩, ⟨(some 36), (.cmp .eql (.tmp 35) (.const (.int .i64 0))), none⟩, ⟨(some 37), (.mv (.tmp 36)), none⟩, ⟨(some 38), (.mv (.tmp 6)), (some (37, true))⟩, ⟨(some 39), (.cmp .eql (.tmp 38) (.const (.int .i64 0))), (some (37, true))⟩, ⟨(some 40), (.pick (.tmp 37) (.tmp 39) (.const (.bool false))), none⟩, ⟨(some 4), (.mv (.tmp 40)), none⟩]) .ret) .skip))
    (.seq (.seq
    (.reg [⟨(some 8), (.mv (.const (.int .i64 0))), none⟩])
    (.block 0
    (.loop (.seq
    (.seq (.reg [⟨(some 41), (.mv (.tmp 8)), none⟩, ⟨(some 42), (.cmp .lss (.tmp 41) (.const (.int .i64 4))), none⟩])
    (.cond (.tmp 42) .skip (.exit 0)))
    (.seq (.block 1
    (.seq (.reg [⟨(some 45), (.mv (.tmp 6)), none⟩, ⟨(some 46), (.mv (.tmp 8)), none⟩, ⟨(some 47), (.pcall 20 [(.tmp 46)]), none⟩, ⟨(some 48), (.dv .rem (.tmp 45) (.tmp 47)), none⟩, ⟨(some 49), (.cmp .eql (.tmp 48) (.const (.int .i64 0))), none⟩, ⟨(some 50), (.mv (.tmp 49)), none⟩, ⟨(some 51), (.mv (.tmp 5)), (some (50, true))⟩, ⟨(some 52), (.mv (.tmp 6)), (some (50, true))⟩, ⟨(some 53), (.mv (.tmp 8)), (some (50, true))⟩, ⟨(some 54), (.pcall 20 [(.tmp 53)]), (some (50, true))⟩, ⟨(some 55), (.dv .quo (.tmp 52) (.tmp 54)), (some (50, true))⟩, ⟨(some 56), (.mv (.tmp 8)), (some (50, true))⟩, ⟨(some 57), (.pcall 25 [(.tmp 51), (.tmp 55), (.tmp 56)]), (some (50, true))⟩, ⟨(some 58), (.mv (.tmp 1)), (some (50, true))⟩, ⟨(some 59), (.cmp .neq (.tmp 57) (.tmp 58)), (some (50, true))⟩, ⟨(some 60), (.pick (.tmp 50) (.tmp 59) (.const (.bool false))), none⟩])
    (.cond (.tmp 60)
    (.seq (.reg [⟨(some 4), (.mv (.const (.bool false))), none⟩]) .ret) .skip)))
    (.reg [⟨(some 43), (.mv (.tmp 8)), none⟩, ⟨(some 44), (.ar .add (.tmp 43) (.const (.int .i64 1))), none⟩, ⟨(some 8), (.mv (.tmp 44)), none⟩]))))))
    (.seq (.reg [⟨(some 61), (.mv (.tmp 5)), none⟩, ⟨(some 62), (.ar .mul (.tmp 61) (.const (.int .i64 64))), none⟩, ⟨(some 63), (.mv (.tmp 6)), none⟩, ⟨(some 64), (.ar .add (.tmp 62) (.tmp 63)), none⟩, ⟨(some 65), (.mv (.tmp 1)), none⟩, ⟨(some 66), (.cmp .eql (.tmp 64) (.tmp 65)), none⟩, ⟨(some 67), (.mv (.tmp 66)), none⟩, ⟨(some 68), (.mv (.tmp 6)), (some (67, true))⟩, ⟨(some 69), (.cmp .geq (.tmp 68) (.const (.int .i64 0))), (some (67, true))⟩, ⟨(some 70), (.pick (.tmp 67) (.tmp 69) (.const (.bool false))), none⟩, ⟨(some 71), (.mv (.tmp 70)), none⟩, ⟨(some 72), (.mv (.tmp 6)), (some (71, true))⟩, ⟨(some 73), (.cmp .lss (.tmp 72) (.const (.int .i64 64))), (some (71, true))⟩, ⟨(some 74), (.pick (.tmp 71) (.tmp 73) (.const (.bool false))), none⟩, ⟨(some 75), (.mv (.tmp 74)), none⟩, ⟨(some 76), (.mv (.tmp 5)), (some (75, true))⟩, ⟨(some 77), (.cmp .geq (.tmp 76) (.const (.int .i64 0))), (some (75, true))⟩, ⟨(some 78), (.pick (.tmp 75) (.tmp 77) (.const (.bool false))), none⟩, ⟨(some 79), (.mv (.tmp 78)), none⟩, ⟨(some 80), (.mv (.tmp 5)), (some (79, true))⟩, ⟨(some 81), (.fad 0 (.tmp 2)), (some (79, true))⟩, ⟨(some 82), (.ld1 (.tmp 81)), (some (79, true))⟩, ⟨(some 83), (.cmp .lss (.tmp 80) (.tmp 82)), (some (79, true))⟩, ⟨(some 84), (.pick (.tmp 79) (.tmp 83) (.const (.bool false))), none⟩, ⟨(some 4), (.mv (.tmp 84)), none⟩]) .ret)))))))⟩ := by kernel_rfl

/-- allotment/allotmentlaw3.PlanClasses -/
theorem tr7 : trF Try.prog pures Try.f7 = some
  ⟨102, [(.t 6)],
    (.seq (.reg [⟨(some 6), (.mv (.const (.bool false))), none⟩])
    (.seq (.seq
    (.reg [⟨(some 12), (.pcall 16 []), none⟩, ⟨(some 13), (.nt (.tmp 12)), none⟩])
    (.cond (.tmp 13)
    (.seq (.reg [⟨(some 6), (.mv (.const (.bool false))), none⟩]) .ret) .skip))
    (.seq (.seq
    (.reg [⟨(some 7), (.mv (.const (.int .i64 0))), none⟩])
    (.block 0
    (.loop (.seq
    (.seq (.reg [⟨(some 14), (.mv (.tmp 7)), none⟩, ⟨(some 15), (.cmp .lss (.tmp 14) (.const (.int .i64 4))), none⟩])
    (.cond (.tmp 15) .skip (.exit 0)))
    (.seq (.block 1
    (.seq (.seq
    (.reg [⟨(some 18), (.mv (.tmp 7)), none⟩, ⟨(some 19), (.pcall 20 [(.tmp 18)]), none⟩, ⟨(some 20), (.mv (.tmp 7)), none⟩, ⟨(some 21), (.pcall 26 [(.tmp 20)]), none⟩, ⟨(some 22), (.ar .mul (.tmp 19) (.tmp 21)), none⟩, ⟨(some 23), (.cmp .neq (.tmp 22) (.const (.int .i64 64))), none⟩, ⟨(some 24), (.mv (.tmp 23)), none⟩, ⟨(some 25), (.mv (.tmp 7)), (some (24, false))⟩, ⟨(some 26), (.pcall 26 [(.tmp 25)]), (some (24, false))⟩, ⟨(some 27), (.cmp .gtr (.tmp 26) (.const (.int .i64 16))), (some (24, false))⟩, ⟨(some 28), (.pick (.tmp 24) (.const (.bool true)) (.tmp 27)), none⟩])
    (.cond (.tmp 28)
    (.seq (.reg [⟨(some 6), (.mv (.const (.bool false))), none⟩]) .ret) .skip))
    (.seq (.reg [⟨(some 29), (.mv (.tmp 2)), none⟩, ⟨(some 30), (.cv .i64 (.tmp 29)), none⟩, ⟨(some 31), (.dv .rem (.tmp 30) (.const (.int .i64 64))), none⟩, ⟨(some 32), (.mv (.tmp 7)), none⟩, ⟨(some 33), (.pcall 20 [(.tmp 32)]), none⟩, ⟨(some 34), (.dv .quo (.tmp 31) (.tmp 33)), none⟩, ⟨(some 8), (.mv (.tmp 34)), none⟩])
    (.seq (.reg [⟨(some 35), (.mv (.tmp 1)), none⟩, ⟨(some 36), (.cv .i64 (.tmp 35)), none⟩, ⟨(some 37), (.dv .rem (.tmp 36) (.const (.int .i64 64))), none⟩, ⟨(some 38), (.mv (.tmp 8)), none⟩, ⟨(some 39), (.mv (.tmp 7)), none⟩, ⟨(some 40), (.pcall 25 [(.tmp 37), (.tmp 38), (.tmp 39)]), none⟩, ⟨(some 9), (.mv (.tmp 40)), none⟩])
    (.seq (.reg [⟨(some 41), (.mv (.tmp 9)), none⟩, ⟨(some 42), (.dv .quo (.tmp 41) (.const (.int .i64 64))), none⟩, ⟨(some 43), (.mv (.tmp 1)), none⟩, ⟨(some 44), (.cv .i64 (.tmp 43)), none⟩, ⟨(some 45), (.dv .rem (.tmp 44) (.const (.int .i64 64))), none⟩, ⟨(some 46), (.cmp .neq (.tmp 42) (.tmp 45)), none⟩, ⟨(some 47), (.mv (.tmp 46)), none⟩, ⟨(some 48), (.mv (.tmp 9)), (some (47, false))⟩, ⟨(some 49), (.mv (.tmp 7)), (some (47, false))⟩, ⟨(some 50), (.pcall 20 [(.tmp 49)]), (some (47, false))⟩, ⟨(some 51), (.dv .rem (.tmp 48) (.tmp 50)), (some (47, false))⟩, ⟨(some 52), (.cmp .neq (.tmp 51) (.const (.int .i64 0))), (some (47, false))⟩, ⟨(some 53), (.pick (.tmp 47) (.const (.bool true)) (.tmp 52)), none⟩, ⟨(some 54), (.mv (.tmp 53)), none⟩, ⟨(some 55), (.mv (.tmp 9)), (some (54, false))⟩, ⟨(some 56), (.mv (.tmp 1)), (some (54, false))⟩, ⟨(some 57), (.cv .i64 (.tmp 56)), (some (54, false))⟩, ⟨(some 58), (.dv .rem (.tmp 57) (.const (.int .i64 64))), (some (54, false))⟩, ⟨(some 59), (.ar .mul (.tmp 58) (.const (.int .i64 64))), (some (54, false))⟩, ⟨(some 60), (.mv (.tmp 2)), (some (54, false))⟩, ⟨(some 61), (.cv .i64 (.tmp 60)), (some (54, false))⟩, ⟨(some 62), (.dv .rem (.tmp 61) (.const (.int .i64 64))), (some (54, false))⟩, ⟨(some 63), (.ar .add (.tmp 59) (.tmp 62)), (some (54, false))⟩, ⟨(some 64), (.cmp .gtr (.tmp 55) (.tmp 63)), (some (54, false))⟩, ⟨(some 65), (.pick (.tmp 54) (.const (.bool true)) (.tmp 64)), none⟩])
    (.cond (.tmp 65)
    (.seq (.reg [⟨(some 6), (.mv (.const (.bool false))), none⟩]) .ret) .skip))))))
    (.reg [⟨(some 16), (.mv (.tmp 7)), none⟩, ⟨(some 17), (.ar .add (.tmp 16) (.const (.int .i64 1))), none⟩, ⟨(some 7), (.mv (.tmp 17)), none⟩]))))))
    (.seq (.reg [⟨(some 67), (.mv (.tmp 0)), none⟩, ⟨(some 68), (.pcall 22 [(.tmp 67)]), none⟩, ⟨(some 66), (.mv (.tmp 68)), none⟩, ⟨(some 69), (.ext 0 (.tmp 66)), none⟩, ⟨(some 70), (.ext 1 (.tmp 66)), none⟩, ⟨(some 10), (.mv (.tmp 69)), none⟩, ⟨(some 11), (.mv (.tmp 70)), none⟩])
    (.seq (.seq
    (.reg [⟨(some 71), (.mv (.tmp 11)), none⟩, ⟨(some 72), (.mv (.tmp 0)), none⟩, ⟨(some 73), (.cmp .geq (.tmp 72) (.const (.int .i64 1))), none⟩, ⟨(some 74), (.mv (.tmp 73)), none⟩, ⟨(some 75), (.mv (.tmp 0)), (some (74, true))⟩, ⟨(some 76), (.cmp .leq (.tmp 75) (.const (.int .i64 512))), (some (74, true))⟩, ⟨(some 77), (.pick (.tmp 74) (.tmp 76) (.const (.bool false))), none⟩, ⟨(some 78), (.beq true (.tmp 71) (.tmp 77)), none⟩])
    (.cond (.tmp 78)
    (.seq (.reg [⟨(some 6), (.mv (.const (.bool false))), none⟩]) .ret) .skip))
    (.seq (.reg [⟨(some 79), (.mv (.tmp 11)), none⟩, ⟨(some 80), (.nt (.tmp 79)), none⟩, ⟨(some 81), (.mv (.tmp 80)), none⟩, ⟨(some 82), (.mv (.tmp 10)), (some (81, false))⟩, ⟨(some 83), (.mv (.tmp 0)), (some (81, false))⟩, ⟨(some 84), (.cmp .geq (.tmp 82) (.tmp 83)), (some (81, false))⟩, ⟨(some 85), (.mv (.tmp 84)), (some (81, false))⟩, ⟨(some 86), (.mv (.tmp 10)), (some (85, true))⟩, ⟨(some 87), (.mv (.tmp 0)), (some (85, true))⟩, ⟨(some 88), (.ar .mul (.const (.int .i64 2)) (.tmp 87)), (some (85, true))⟩, ⟨(some 89), (.cmp .lss (.tmp 86) (.tmp 88)), (some (85, true))⟩, ⟨(some 90), (.mv (.tmp 89)), (some (85, true))⟩, ⟨(some 91), (.mv (.tmp 10)), (some (90, false))⟩, ⟨(some 92), (.cmp .eql (.tmp 91) (.const (.int .i64 4))), (some (90, false))⟩, ⟨(some 93), (.pick (.tmp 90) (.const (.bool true)) (.tmp 92)), (some (85, true))⟩, ⟨(some 94), (.mv (.tmp 93)), (some (85, true))⟩, ⟨(some 95), (.mv (.tmp 10)), (some (94, false))⟩, ⟨(some 96), (.mv (.tmp 0)), (some (94, false))⟩, ⟨(some 97), (.ar .add (.tmp 96) (.const (.int .i64 64))), (some (94, false))⟩, ⟨(some 98), (.cmp .lss (.tmp 95) (.tmp 97)), (some (94, false))⟩, ⟨(some 99), (.pick (.tmp 94) (.const (.bool true)) (.tmp 98)), (some (85, true))⟩, ⟨(some 100), (.pick (.tmp 85) (.tmp 99) (.const (.bool false))), (some (81, false))⟩, ⟨(some 101), (.pick (.tmp 81) (.const (.bool true)) (.tmp 100)), none⟩, ⟨(some 6), (.mv (.tmp 101)), none⟩]) .ret))))))⟩ := by kernel_rfl

/-- allotment/allotmentlaw3.PlanApart -/
theorem tr8 : trF Try.prog pures Try.f8 = some
  ⟨94, [(.t 2)],
    (.seq (.reg [⟨(some 1), (.box 23 (.tmp 0)), none⟩, ⟨(some 2), (.mv (.const (.bool false))), none⟩])
    (.seq (.seq
    (.reg [⟨(some 11), (.pcall 16 []), none⟩, ⟨(some 12), (.nt (.tmp 11)), none⟩])
    (.cond (.tmp 12)
    (.seq (.reg [⟨(some 2), (.mv (.const (.bool false))), none⟩]) .ret) .skip))
    (.seq (.seq
    (.reg [⟨(some 13), (.ldn 3 (.tmp 1)), none⟩, ⟨(some 14), (.pcall 24 [(.tmp 13)]), none⟩, ⟨(some 15), (.nt (.tmp 14)), none⟩])
    (.cond (.tmp 15)
    (.seq (.reg [⟨(some 16), (.ldn 3 (.tmp 1)), none⟩, ⟨(some 17), (.pcall 18 [(.tmp 16)]), none⟩, ⟨(some 18), (.cmp .eql (.tmp 17) (.const (.int .i64 0))), none⟩, ⟨(some 2), (.mv (.tmp 18)), none⟩]) .ret) .skip))
    (.seq (.reg [⟨(some 19), (.ldn 3 (.tmp 1)), none⟩, ⟨(some 20), (.pcall 18 [(.tmp 19)]), none⟩, ⟨(some 3), (.mv (.tmp 20)), none⟩])
    (.seq (.seq
    (.reg [⟨(some 21), (.mv (.tmp 3)), none⟩, ⟨(some 22), (.cmp .lss (.tmp 21) (.const (.int .i64 1))), none⟩, ⟨(some 23), (.mv (.tmp 22)), none⟩, ⟨(some 24), (.mv (.tmp 3)), (some (23, false))⟩, ⟨(some 25), (.cmp .gtr (.tmp 24) (.const (.int .i64 2000))), (some (23, false))⟩, ⟨(some 26), (.pick (.tmp 23) (.const (.bool true)) (.tmp 25)), none⟩])
    (.cond (.tmp 26)
    (.seq (.reg [⟨(some 2), (.mv (.const (.bool false))), none⟩]) .ret) .skip))
    (.seq (.reg [⟨(some 27), (.mv (.tmp 3)), none⟩, ⟨(some 28), (.mks 3 8 (.int .i64 0) (.tmp 27) (.tmp 27)), none⟩, ⟨(some 4), (.mv (.tmp 28)), none⟩])
    (.seq (.reg [⟨(some 5), (.mv (.const (.int .i64 0))), none⟩])
    (.seq (.seq
    (.reg [⟨(some 6), (.mv (.const (.int .i64 0))), none⟩])
    (.block 0
    (.loop (.seq
    (.seq (.reg [⟨(some 29), (.mv (.tmp 6)), none⟩, ⟨(some 30), (.fad 1 (.tmp 1)), none⟩, ⟨(some 31), (.ld1 (.tmp 30)), none⟩, ⟨(some 32), (.cmp .lss (.tmp 29) (.tmp 31)), none⟩])
    (.cond (.tmp 32) .skip (.exit 0)))
    (.seq (.block 1
    (.seq (.reg [⟨(some 35), (.mv (.tmp 5)), none⟩, ⟨(some 36), (.mv (.tmp 4)), none⟩, ⟨(some 37), (.ldn 3 (.tmp 1)), none⟩, ⟨(some 38), (.mv (.tmp 6)), none⟩, ⟨(some 39), (.pcall 28 [(.tmp 37), (.tmp 38)]), none⟩, ⟨(some 40), (.call 27 [(.tmp 36), (.tmp 39)]), none⟩, ⟨(some 41), (.ar .add (.tmp 35) (.tmp 40)), none⟩, ⟨(some 5), (.mv (.tmp 41)), none⟩])
    (.seq (.reg [⟨(some 7), (.mv (.const (.int .i64 0))), none⟩])
    (.block 2
    (.loop (.seq
    (.seq (.reg [⟨(some 42), (.mv (.tmp 7)), none⟩, ⟨(some 43), (.fad 2 (.tmp 1)), none⟩, ⟨(some 44), (.ld1 (.tmp 43)), none⟩, ⟨(some 45), (.cmp .lss (.tmp 42) (.tmp 44)), none⟩])
    (.cond (.tmp 45) .skip (.exit 2)))
    (.seq (.block 3
    (.reg [⟨(some 48), (.mv (.tmp 5)), none⟩, ⟨(some 49), (.mv (.tmp 4)), none⟩, ⟨(some 50), (.ldn 3 (.tmp 1)), none⟩, ⟨(some 51), (.mv (.tmp 6)), none⟩, ⟨(some 52), (.mv (.tmp 7)), none⟩, ⟨(some 53), (.pcall 29 [(.tmp 50), (.tmp 51), (.tmp 52)]), none⟩, ⟨(some 54), (.call 27 [(.tmp 49), (.tmp 53)]), none⟩, ⟨(some 55), (.ar .add (.tmp 48) (.tmp 54)), none⟩, ⟨(some 5), (.mv (.tmp 55)), none⟩]))
    (.reg [⟨(some 46), (.mv (.tmp 7)), none⟩, ⟨(some 47), (.ar .add (.tmp 46) (.const (.int .i64 1))), none⟩, ⟨(some 7), (.mv (.tmp 47)), none⟩]))))))))
    (.reg [⟨(some 33), (.mv (.tmp 6)), none⟩, ⟨(some 34), (.ar .add (.tmp 33) (.const (.int .i64 1))), none⟩, ⟨(some 6), (.mv (.tmp 34)), none⟩]))))))
    (.seq (.seq
    (.reg [⟨(some 8), (.mv (.const (.int .i64 0))), none⟩])
    (.block 4
    (.loop (.seq
    (.seq (.reg [⟨(some 56), (.mv (.tmp 8)), none⟩, ⟨(some 57), (.fad 0 (.tmp 1)), none⟩, ⟨(some 58), (.ld1 (.tmp 57)), none⟩, ⟨(some 59), (.cmp .lss (.tmp 56) (.tmp 58)), none⟩])
    (.cond (.tmp 59) .skip (.exit 4)))
    (.seq (.block 5
    (.seq (.reg [⟨(some 62), (.mv (.tmp 5)), none⟩, ⟨(some 63), (.mv (.tmp 4)), none⟩, ⟨(some 64), (.ldn 3 (.tmp 1)), none⟩, ⟨(some 65), (.mv (.tmp 8)), none⟩, ⟨(some 66), (.pcall 30 [(.tmp 64), (.tmp 65)]), none⟩, ⟨(some 67), (.call 27 [(.tmp 63), (.tmp 66)]), none⟩, ⟨(some 68), (.ar .add (.tmp 62) (.tmp 67)), none⟩, ⟨(some 5), (.mv (.tmp 68)), none⟩])
    (.seq (.reg [⟨(some 9), (.mv (.const (.int .i64 0))), none⟩])
    (.block 6
    (.loop (.seq
    (.seq (.reg [⟨(some 69), (.mv (.tmp 9)), none⟩, ⟨(some 70), (.cmp .lss (.tmp 69) (.const (.int .i64 16))), none⟩])
    (.cond (.tmp 70) .skip (.exit 6)))
    (.seq (.block 7
    (.reg [⟨(some 73), (.mv (.tmp 5)), none⟩, ⟨(some 74), (.mv (.tmp 4)), none⟩, ⟨(some 75), (.ldn 3 (.tmp 1)), none⟩, ⟨(some 76), (.mv (.tmp 8)), none⟩, ⟨(some 77), (.mv (.tmp 9)), none⟩, ⟨(some 78), (.pcall 31 [(.tmp 75), (.tmp 76), (.tmp 77)]), none⟩, ⟨(some 79), (.call 27 [(.tmp 74), (.tmp 78)]), none⟩, ⟨(some 80), (.ar .add (.tmp 73) (.tmp 79)), none⟩, ⟨(some 5), (.mv (.tmp 80)), none⟩]))
    (.reg [⟨(some 71), (.mv (.tmp 9)), none⟩, ⟨(some 72), (.ar .add (.tmp 71) (.const (.int .i64 1))), none⟩, ⟨(some 9), (.mv (.tmp 72)), none⟩]))))))))
    (.reg [⟨(some 60), (.mv (.tmp 8)), none⟩, ⟨(some 61), (.ar .add (.tmp 60) (.const (.int .i64 1))), none⟩, ⟨(some 8), (.mv (.tmp 61)), none⟩]))))))
    (.seq (.seq
    (.reg [⟨(some 10), (.mv (.const (.int .i64 0))), none⟩])
    (.block 8
    (.loop (.seq
    (.seq (.reg [⟨(some 81), (.mv (.tmp 10)), none⟩, ⟨(some 82), (.mv (.tmp 3)), none⟩, ⟨(some 83), (.cmp .lss (.tmp 81) (.tmp 82)), none⟩])
    (.cond (.tmp 83) .skip (.exit 8)))
    (.seq (.block 9
    (.seq (.reg [⟨(some 86), (.mv (.tmp 4)), none⟩, ⟨(some 87), (.mv (.tmp 10)), none⟩, ⟨(some 88), (.iad 1 (.tmp 86) (.tmp 87)), none⟩, ⟨(some 89), (.ld1 (.tmp 88)), none⟩, ⟨(some 90), (.cmp .neq (.tmp 89) (.const (.int .i64 1))), none⟩])
    (.cond (.tmp 90)
    (.seq (.reg [⟨(some 2), (.mv (.const (.bool false))), none⟩]) .ret) .skip)))
    (.reg [⟨(some 84), (.mv (.tmp 10)), none⟩, ⟨(some 85), (.ar .add (.tmp 84) (.const (.int .i64 1))), none⟩, ⟨(some 10), (.mv (.tmp 85)), none⟩]))))))
    (.seq (.reg [⟨(some 91), (.mv (.tmp 5)), none⟩, ⟨(some 92), (.mv (.tmp 3)), none⟩, ⟨(some 93), (.cmp .eql (.tmp 91) (.tmp 92)), none⟩, ⟨(some 2), (.mv (.tmp 93)), none⟩]) .ret)))))))))))⟩ := by kernel_rfl

/-- allotment/allotmentlaw3.PlanKnown -/
theorem tr9 : trF Try.prog pures Try.f9 = some
  ⟨103, [(.t 0)],
    (.seq (.reg [⟨(some 0), (.mv (.const (.bool false))), none⟩])
    (.seq (.seq
    (.reg [⟨(some 16), (.pcall 16 []), none⟩, ⟨(some 17), (.nt (.tmp 16)), none⟩])
    (.cond (.tmp 17)
    (.seq (.reg [⟨(some 0), (.mv (.const (.bool false))), none⟩]) .ret) .skip))
    (.seq (.reg [⟨(some 18), (.bld #[(.int .i64 0), (.int .i64 0), (.int .i64 0)] [(0, (1, (.const (.int .i64 2)))), (1, (1, (.const (.int .i64 1)))), (2, (1, (.const (.int .i64 3))))]), none⟩, ⟨(some 1), (.alc 23 (.agg #[(.int .i64 0), (.int .i64 0), (.int .i64 0)])), none⟩, ⟨none, (.stn 3 (.tmp 1) (.tmp 18)), none⟩])
    (.seq (.reg [⟨(some 20), (.pcall 19 [(.const (.int .i64 33))]), none⟩, ⟨(some 19), (.mv (.tmp 20)), none⟩, ⟨(some 21), (.ext 0 (.tmp 19)), none⟩, ⟨(some 22), (.ext 1 (.tmp 19)), none⟩, ⟨(some 2), (.mv (.tmp 21)), none⟩, ⟨(some 3), (.mv (.tmp 22)), none⟩])
    (.seq (.reg [⟨(some 24), (.pcall 21 [(.const (.int .i64 32))]), none⟩, ⟨(some 23), (.mv (.tmp 24)), none⟩, ⟨(some 25), (.ext 0 (.tmp 23)), none⟩, ⟨(some 26), (.ext 1 (.tmp 23)), none⟩, ⟨(some 4), (.mv (.tmp 25)), none⟩, ⟨(some 5), (.mv (.tmp 26)), none⟩])
    (.seq (.reg [⟨(some 28), (.pcall 21 [(.const (.int .i64 513))]), none⟩, ⟨(some 27), (.mv (.tmp 28)), none⟩, ⟨(some 29), (.ext 0 (.tmp 27)), none⟩, ⟨(some 30), (.ext 1 (.tmp 27)), none⟩, ⟨(some 6), (.mv (.tmp 29)), none⟩, ⟨(some 7), (.mv (.tmp 30)), none⟩])
    (.seq (.reg [⟨(some 32), (.pcall 22 [(.const (.int .i64 33))]), none⟩, ⟨(some 31), (.mv (.tmp 32)), none⟩, ⟨(some 33), (.ext 0 (.tmp 31)), none⟩, ⟨(some 34), (.ext 1 (.tmp 31)), none⟩, ⟨(some 8), (.mv (.tmp 33)), none⟩, ⟨(some 9), (.mv (.tmp 34)), none⟩])
    (.seq (.reg [⟨(some 36), (.ldn 3 (.tmp 1)), none⟩, ⟨(some 37), (.pcall 23 [(.tmp 36), (.const (.int .i64 127))]), none⟩, ⟨(some 35), (.mv (.tmp 37)), none⟩, ⟨(some 38), (.ext 0 (.tmp 35)), none⟩, ⟨(some 39), (.ext 1 (.tmp 35)), none⟩, ⟨(some 40), (.ext 2 (.tmp 35)), none⟩, ⟨(some 10), (.mv (.tmp 38)), none⟩, ⟨(some 11), (.mv (.tmp 39)), none⟩, ⟨(some 12), (.mv (.tmp 40)), none⟩])
    (.seq (.reg [⟨(some 42), (.ldn 3 (.tmp 1)), none⟩, ⟨(some 43), (.pcall 23 [(.tmp 42), (.const (.int .i64 128))]), none⟩, ⟨(some 41), (.mv (.tmp 43)), none⟩, ⟨(some 44), (.ext 0 (.tmp 41)), none⟩, ⟨(some 45), (.ext 1 (.tmp 41)), none⟩, ⟨(some 46), (.ext 2 (.tmp 41)), none⟩, ⟨(some 13), (.mv (.tmp 44)), none⟩, ⟨(some 14), (.mv (.tmp 45)), none⟩, ⟨(some 15), (.mv (.tmp 46)), none⟩])
    (.seq (.reg [⟨(some 47), (.mv (.tmp 3)), none⟩, ⟨(some 48), (.nt (.tmp 47)), none⟩, ⟨(some 49), (.mv (.tmp 48)), none⟩, ⟨(some 50), (.mv (.tmp 5)), (some (49, true))⟩, ⟨(some 51), (.nt (.tmp 50)), (some (49, true))⟩, ⟨(some 52), (.pick (.tmp 49) (.tmp 51) (.const (.bool false))), none⟩, ⟨(some 53), (.mv (.tmp 52)), none⟩, ⟨(some 54), (.mv (.tmp 7)), (some (53, true))⟩, ⟨(some 55), (.nt (.tmp 54)), (some (53, true))⟩, ⟨(some 56), (.pick (.tmp 53) (.tmp 55) (.const (.bool false))), none⟩, ⟨(some 57), (.mv (.tmp 56)), none⟩, ⟨(some 58), (.mv (.tmp 9)), (some (57, true))⟩, ⟨(some 59), (.pick (.tmp 57) (.tmp 58) (.const (.bool false))), none⟩, ⟨(some 60), (.mv (.tmp 59)), none⟩, ⟨(some 61), (.mv (.tmp 8)), (some (60, true))⟩, ⟨(some 62), (.cmp .eql (.tmp 61) (.const (.int .i64 64))), (some (60, true))⟩, ⟨(some 63), (.pick (.tmp 60) (.tmp 62) (.const (.bool false))), none⟩, ⟨(some 64), (.mv (.tmp 63)), none⟩, ⟨(some 65), (.mv (.tmp 12)), (some (64, true))⟩, ⟨(some 66), (.pick (.tmp 64) (.tmp 65) (.const (.bool false))), none⟩, ⟨(some 67), (.mv (.tmp 66)), none⟩, ⟨(some 68), (.mv (.tmp 10)), (some (67, true))⟩, ⟨(some 69), (.cmp .eql (.tmp 68) (.const (.int .i64 1))), (some (67, true))⟩, ⟨(some 70), (.pick (.tmp 67) (.tmp 69) (.const (.bool false))), none⟩, ⟨(some 71), (.mv (.tmp 70)), none⟩, ⟨(some 72), (.mv (.tmp 11)), (some (71, true))⟩, ⟨(some 73), (.cmp .eql (.tmp 72) (.const (.int .i64 63))), (some (71, true))⟩, ⟨(some 74), (.pick (.tmp 71) (.tmp 73) (.const (.bool false))), none⟩, ⟨(some 75), (.mv (.tmp 74)), none⟩, ⟨(some 76), (.mv (.tmp 15)), (some (75, true))⟩, ⟨(some 77), (.nt (.tmp 76)), (some (75, true))⟩, ⟨(some 78), (.pick (.tmp 75) (.tmp 77) (.const (.bool false))), none⟩, ⟨(some 79), (.mv (.tmp 78)), none⟩, ⟨(some 80), (.ldn 3 (.tmp 1)), (some (79, true))⟩, ⟨(some 81), (.pcall 31 [(.tmp 80), (.const (.int .i64 2)), (.const (.int .i64 0))]), (some (79, true))⟩, ⟨(some 82), (.cmp .eql (.tmp 81) (.const (.int .i64 (-1)))), (some (79, true))⟩, ⟨(some 83), (.pick (.tmp 79) (.tmp 82) (.const (.bool false))), none⟩, ⟨(some 84), (.mv (.tmp 83)), none⟩, ⟨(some 85), (.ldn 3 (.tmp 1)), (some (84, true))⟩, ⟨(some 86), (.pcall 29 [(.tmp 85), (.const (.int .i64 0)), (.const (.int .i64 3))]), (some (84, true))⟩, ⟨(some 87), (.cmp .eql (.tmp 86) (.const (.int .i64 (-1)))), (some (84, true))⟩, ⟨(some 88), (.pick (.tmp 84) (.tmp 87) (.const (.bool false))), none⟩, ⟨(some 89), (.mv (.tmp 88)), none⟩, ⟨(some 90), (.bld #[(.int .i64 0), (.int .i64 0), (.int .i64 0)] []), (some (89, true))⟩, ⟨(some 91), (.pcall 17 [(.tmp 90)]), (some (89, true))⟩, ⟨(some 92), (.nt (.tmp 91)), (some (89, true))⟩, ⟨(some 93), (.pick (.tmp 89) (.tmp 92) (.const (.bool false))), none⟩, ⟨(some 94), (.mv (.tmp 93)), none⟩, ⟨(some 95), (.bld #[(.int .i64 0), (.int .i64 0), (.int .i64 0)] [(0, (1, (.const (.int .i64 65)))), (1, (1, (.const (.int .i64 1))))]), (some (94, true))⟩, ⟨(some 96), (.pcall 18 [(.tmp 95)]), (some (94, true))⟩, ⟨(some 97), (.cmp .eql (.tmp 96) (.const (.int .i64 0))), (some (94, true))⟩, ⟨(some 98), (.pick (.tmp 94) (.tmp 97) (.const (.bool false))), none⟩, ⟨(some 99), (.mv (.tmp 98)), none⟩, ⟨(some 100), (.pcall 25 [(.const (.int .i64 1)), (.const (.int .i64 2)), (.const (.int .i64 0))]), (some (99, true))⟩, ⟨(some 101), (.cmp .eql (.tmp 100) (.const (.int .i64 72))), (some (99, true))⟩, ⟨(some 102), (.pick (.tmp 99) (.tmp 101) (.const (.bool false))), none⟩, ⟨(some 0), (.mv (.tmp 102)), none⟩]) .ret))))))))))⟩ := by kernel_rfl

/-- allotment/allotmentlaw3.PlanReckons -/
theorem tr10 : trF Try.prog pures Try.f10 = some
  ⟨180, [(.t 6)],
    (.seq (.reg [⟨(some 3), (.box 23 (.tmp 0)), none⟩, ⟨(some 6), (.mv (.const (.bool false))), none⟩])
    (.seq (.seq
    (.reg [⟨(some 25), (.pcall 16 []), none⟩, ⟨(some 26), (.nt (.tmp 25)), none⟩])
    (.cond (.tmp 26)
    (.seq (.reg [⟨(some 6), (.mv (.const (.bool false))), none⟩]) .ret) .skip))
    (.seq (.reg [⟨(some 28), (.mv (.tmp 1)), none⟩, ⟨(some 29), (.pcall 19 [(.tmp 28)]), none⟩, ⟨(some 27), (.mv (.tmp 29)), none⟩, ⟨(some 30), (.ext 0 (.tmp 27)), none⟩, ⟨(some 31), (.ext 1 (.tmp 27)), none⟩, ⟨(some 7), (.mv (.tmp 30)), none⟩, ⟨(some 8), (.mv (.tmp 31)), none⟩])
    (.seq (.reg [⟨(some 33), (.mv (.tmp 1)), none⟩, ⟨(some 34), (.pcall 32 [(.tmp 33)]), none⟩, ⟨(some 32), (.mv (.tmp 34)), none⟩, ⟨(some 35), (.ext 0 (.tmp 32)), none⟩, ⟨(some 36), (.ext 1 (.tmp 32)), none⟩, ⟨(some 9), (.mv (.tmp 35)), none⟩, ⟨(some 10), (.mv (.tmp 36)), none⟩])
    (.seq (.reg [⟨(some 38), (.mv (.tmp 1)), none⟩, ⟨(some 39), (.pcall 21 [(.tmp 38)]), none⟩, ⟨(some 37), (.mv (.tmp 39)), none⟩, ⟨(some 40), (.ext 0 (.tmp 37)), none⟩, ⟨(some 41), (.ext 1 (.tmp 37)), none⟩, ⟨(some 11), (.mv (.tmp 40)), none⟩, ⟨(some 12), (.mv (.tmp 41)), none⟩])
    (.seq (.reg [⟨(some 43), (.mv (.tmp 1)), none⟩, ⟨(some 44), (.pcall 33 [(.tmp 43)]), none⟩, ⟨(some 42), (.mv (.tmp 44)), none⟩, ⟨(some 45), (.ext 0 (.tmp 42)), none⟩, ⟨(some 46), (.ext 1 (.tmp 42)), none⟩, ⟨(some 13), (.mv (.tmp 45)), none⟩, ⟨(some 14), (.mv (.tmp 46)), none⟩])
    (.seq (.reg [⟨(some 48), (.mv (.tmp 1)), none⟩, ⟨(some 49), (.pcall 22 [(.tmp 48)]), none⟩, ⟨(some 47), (.mv (.tmp 49)), none⟩, ⟨(some 50), (.ext 0 (.tmp 47)), none⟩, ⟨(some 51), (.ext 1 (.tmp 47)), none⟩, ⟨(some 15), (.mv (.tmp 50)), none⟩, ⟨(some 16), (.mv (.tmp 51)), none⟩])
    (.seq (.reg [⟨(some 53), (.mv (.tmp 1)), none⟩, ⟨(some 54), (.pcall 34 [(.tmp 53)]), none⟩, ⟨(some 52), (.mv (.tmp 54)), none⟩, ⟨(some 55), (.ext 0 (.tmp 52)), none⟩, ⟨(some 56), (.ext 1 (.tmp 52)), none⟩, ⟨(some 17), (.mv (.tmp 55)), none⟩, ⟨(some 18), (.mv (.tmp 56)), none⟩])
    (.seq (.reg [⟨(some 58), (.ldn 3 (.tmp 3)), none⟩, ⟨(some 59), (.mv (.tmp 1)), none⟩, ⟨(some 60), (.pcall 23 [(.tmp 58), (.tmp 59)]), none⟩, ⟨(some 57), (.mv (.tmp 60)), none⟩, ⟨(some 61), (.ext 0 (.tmp 57)), none⟩, ⟨(some 62), (.ext 1 (.tmp 57)), none⟩, ⟨(some 63), (.ext 2 (.tmp 57)), none⟩, ⟨(some 19), (.mv (.tmp 61)), none⟩, ⟨(some 20), (.mv (.tmp 62)), none⟩, ⟨(some 21), (.mv (.tmp 63)), none⟩])
    (.seq (.reg [⟨(some 65), (.ldn 3 (.tmp 3)), none⟩, ⟨(some 66), (.mv (.tmp 1)), none⟩, ⟨(some 67), (.pcall 35 [(.tmp 65), (.tmp 66)]), none⟩, ⟨(some 64), (.mv (.tmp 67)), none⟩, ⟨(some 68), (.ext 0 (.tmp 64)), none⟩, ⟨(some 69), (.ext 1 (.tmp 64)), none⟩, ⟨(some 70), (.ext 2 (.tmp 64)), none⟩, ⟨(some 22), (.mv (.tmp 68)), none⟩, ⟨(some 23), (.mv (.tmp 69)), none⟩, ⟨(some 24), (.mv (.tmp 70)), none⟩])
    (.seq (.seq
    (.reg [⟨(some 71), (.mv (.tmp 7)), none⟩, ⟨(some 72), (.mv (.tmp 9)), none⟩, ⟨(some 73), (.cmp .neq (.tmp 71) (.tmp 72)), none⟩, ⟨(some 74), (.mv (.tmp 73)), none⟩, ⟨(some 75), (.mv (.tmp 8)), (some (74, false))⟩, ⟨(some 76), (.mv (.tmp 10)), (some (74, false))⟩, ⟨(some 77), (.beq true (.tmp 75) (.tmp 76)), (some (74, false))⟩, ⟨(some 78), (.pick (.tmp 74) (.const (.bool true)) (.tmp 77)), none⟩, ⟨(some 79), (.mv (.tmp 78)), none⟩, ⟨(some 80), (.mv (.tmp 11)), (some (79, false))⟩, ⟨(some 81), (.mv (.tmp 13)), (some (79, false))⟩, ⟨(some 82), (.cmp .neq (.tmp 80) (.tmp 81)), (some (79, false))⟩, ⟨(some 83), (.pick (.tmp 79) (.const (.bool true)) (.tmp 82)), none⟩, ⟨(some 84), (.mv (.tmp 83)), none⟩, ⟨(some 85), (.mv (.tmp 12)), (some (84, false))⟩, ⟨(some 86), (.mv (.tmp 14)), (some (84, false))⟩, ⟨(some 87), (.beq true (.tmp 85) (.tmp 86)), (some (84, false))⟩, ⟨(some 88), (.pick (.tmp 84) (.const (.bool true)) (.tmp 87)), none⟩, ⟨(some 89), (.mv (.tmp 88)), none⟩, ⟨(some 90), (.mv (.tmp 15)), (some (89, false))⟩, ⟨(some 91), (.mv (.tmp 17)), (some (89, false))⟩, ⟨(some 92), (.cmp .neq (.tmp 90) (.tmp 91)), (some (89, false))⟩, ⟨(some 93), (.pick (.tmp 89) (.const (.bool true)) (.tmp 92)), none⟩, ⟨(some 94), (.mv (.tmp 93)), none⟩, ⟨(some 95), (.mv (.tmp 16)), (some (94, false))⟩, ⟨(some 96), (.mv (.tmp 18)), (some (94, false))⟩, ⟨(some 97), (.beq true (.tmp 95) (.tmp 96)), (some (94, false))⟩, ⟨(some 98), (.pick (.tmp 94) (.const (.bool true)) (.tmp 97)), none⟩, ⟨(some 99), (.mv (.tmp 98)), none⟩, ⟨(some 100), (.mv (.tmp 19)), (some (99, false))⟩, ⟨(some 101), (.mv (.tmp 22)), (some (99, false))⟩, ⟨(some 102), (.cmp .neq (.tmp 100) (.tmp 101)), (some (99, false))⟩, ⟨(some 103), (.pick (.tmp 99) (.const (.bool true)) (.tmp 102)), none⟩, ⟨(some 104), (.mv (.tmp 103)), none⟩, ⟨(some 105), (.mv (.tmp 20)), (some (104, false))⟩, ⟨(some 106), (.mv (.tmp 23)), (some (104, false))⟩, ⟨(some 107), (.cmp .neq (.tmp 105) (.tmp 106)), (some (104, false))⟩, ⟨(some 108), (.pick (.tmp 104) (.const (.bool true)) (.tmp 107)), none⟩, ⟨(some 109), (.mv (.tmp 108)), none⟩, ⟨(some 110), (.mv (.tmp 21)), (some (109, false))⟩, ⟨(some 111), (.mv (.tmp 24)), (some (109, false))⟩, ⟨(some 112), (.beq true (.tmp 110) (.tmp 111)), (some (109, false))⟩, ⟨(some 113), (.pick (.tmp 109) (.const (.bool true)) (.tmp 112)), none⟩, ⟨(some 114), (.mv (.tmp 113)), none⟩, ⟨(some 115), (.ldn 3 (.tmp 3)), (some (114, false))⟩, ⟨(some 116), (.pcall 17 [(.tmp 115)]), (some (114, false))⟩, ⟨(some 117), (.ldn 3 (.tmp 3)), (some (114, false))⟩, ⟨(some 118), (.pcall 24 [(.tmp 117)]), (some (114, false))⟩, ⟨(some 119), (.beq true (.tmp 116) (.tmp 118)), (some (114, false))⟩, ⟨(some 120), (.pick (.tmp 114) (.const (.bool true)) (.tmp 119)), none⟩])
    (.cond (.tmp 120)
    (.seq (.reg [⟨(some 6), (.mv (.const (.bool false))), none⟩]) .ret) .skip))
    (.seq (.reg [⟨(some 121), (.mv (.tmp 1)), none⟩, ⟨(some 122), (.pcall 20 [(.tmp 121)]), none⟩, ⟨(some 123), (.mv (.tmp 1)), none⟩, ⟨(some 124), (.pcall 36 [(.tmp 123)]), none⟩, ⟨(some 125), (.cmp .eql (.tmp 122) (.tmp 124)), none⟩, ⟨(some 126), (.mv (.tmp 125)), none⟩, ⟨(some 127), (.mv (.tmp 1)), (some (126, true))⟩, ⟨(some 128), (.pcall 26 [(.tmp 127)]), (some (126, true))⟩, ⟨(some 129), (.mv (.tmp 1)), (some (126, true))⟩, ⟨(some 130), (.pcall 37 [(.tmp 129)]), (some (126, true))⟩, ⟨(some 131), (.cmp .eql (.tmp 128) (.tmp 130)), (some (126, true))⟩, ⟨(some 132), (.pick (.tmp 126) (.tmp 131) (.const (.bool false))), none⟩, ⟨(some 133), (.mv (.tmp 132)), none⟩, ⟨(some 134), (.ldn 3 (.tmp 3)), (some (133, true))⟩, ⟨(some 135), (.pcall 18 [(.tmp 134)]), (some (133, true))⟩, ⟨(some 136), (.ldn 3 (.tmp 3)), (some (133, true))⟩, ⟨(some 137), (.pcall 38 [(.tmp 136)]), (some (133, true))⟩, ⟨(some 138), (.cmp .eql (.tmp 135) (.tmp 137)), (some (133, true))⟩, ⟨(some 139), (.pick (.tmp 133) (.tmp 138) (.const (.bool false))), none⟩, ⟨(some 140), (.mv (.tmp 139)), none⟩, ⟨(some 141), (.ldn 3 (.tmp 3)), (some (140, true))⟩, ⟨(some 142), (.mv (.tmp 1)), (some (140, true))⟩, ⟨(some 143), (.pcall 30 [(.tmp 141), (.tmp 142)]), (some (140, true))⟩, ⟨(some 144), (.ldn 3 (.tmp 3)), (some (140, true))⟩, ⟨(some 145), (.mv (.tmp 1)), (some (140, true))⟩, ⟨(some 146), (.pcall 39 [(.tmp 144), (.tmp 145)]), (some (140, true))⟩, ⟨(some 147), (.cmp .eql (.tmp 143) (.tmp 146)), (some (140, true))⟩, ⟨(some 148), (.pick (.tmp 140) (.tmp 147) (.const (.bool false))), none⟩, ⟨(some 149), (.mv (.tmp 148)), none⟩, ⟨(some 150), (.ldn 3 (.tmp 3)), (some (149, true))⟩, ⟨(some 151), (.mv (.tmp 1)), (some (149, true))⟩, ⟨(some 152), (.mv (.tmp 2)), (some (149, true))⟩, ⟨(some 153), (.pcall 31 [(.tmp 150), (.tmp 151), (.tmp 152)]), (some (149, true))⟩, ⟨(some 154), (.ldn 3 (.tmp 3)), (some (149, true))⟩, ⟨(some 155), (.mv (.tmp 1)), (some (149, true))⟩, ⟨(some 156), (.mv (.tmp 2)), (some (149, true))⟩, ⟨(some 157), (.pcall 40 [(.tmp 154), (.tmp 155), (.tmp 156)]), (some (149, true))⟩, ⟨(some 158), (.cmp .eql (.tmp 153) (.tmp 157)), (some (149, true))⟩, ⟨(some 159), (.pick (.tmp 149) (.tmp 158) (.const (.bool false))), none⟩, ⟨(some 160), (.mv (.tmp 159)), none⟩, ⟨(some 161), (.ldn 3 (.tmp 3)), (some (160, true))⟩, ⟨(some 162), (.mv (.tmp 1)), (some (160, true))⟩, ⟨(some 163), (.mv (.tmp 2)), (some (160, true))⟩, ⟨(some 164), (.pcall 29 [(.tmp 161), (.tmp 162), (.tmp 163)]), (some (160, true))⟩, ⟨(some 165), (.ldn 3 (.tmp 3)), (some (160, true))⟩, ⟨(some 166), (.mv (.tmp 1)), (some (160, true))⟩, ⟨(some 167), (.mv (.tmp 2)), (some (160, true))⟩, ⟨(some 168), (.pcall 41 [(.tmp 165), (.tmp 166), (.tmp 167)]), (some (160, true))⟩, ⟨(some 169), (.cmp .eql (.tmp 164) (.tmp 168)), (some (160, true))⟩, ⟨(some 170), (.pick (.tmp 160) (.tmp 169) (.const (.bool false))), none⟩, ⟨(some 171), (.mv (.tmp 170)), none⟩, ⟨(some 172), (.ldn 3 (.tmp 3)), (some (171, true))⟩, ⟨(some 173), (.mv (.tmp 1)), (some (171, true))⟩, ⟨(some 174), (.pcall 28 [(.tmp 172), (.tmp 173)]), (some (171, true))⟩, ⟨(some 175), (.ldn 3 (.tmp 3)), (some (171, true))⟩, ⟨(some 176), (.mv (.tmp 1)), (some (171, true))⟩, ⟨(some 177), (.pcall 42 [(.tmp 175), (.tmp 176)]), (some (171, true))⟩, ⟨(some 178), (.cmp .eql (.tmp 174) (.tmp 177)), (some (171, true))⟩, ⟨(some 179), (.pick (.tmp 171) (.tmp 178) (.const (.bool false))), none⟩, ⟨(some 6), (.mv (.tmp 179)), none⟩]) .ret))))))))))))⟩ := by kernel_rfl

/-- allotment/allotmentlaw19.CapReckons -/
theorem tr11 : trF Try.prog pures Try.f11 = some
  ⟨28, [(.t 4)],
    (.seq (.reg [⟨(some 2), (.box 23 (.tmp 0)), none⟩, ⟨(some 3), (.box 45 (.tmp 1)), none⟩, ⟨(some 4), (.mv (.const (.bool false))), none⟩])
    (.seq (.seq
    (.reg [⟨(some 5), (.pcall 13 []), none⟩, ⟨(some 6), (.nt (.tmp 5)), none⟩])
    (.cond (.tmp 6)
    (.seq (.reg [⟨(some 4), (.mv (.const (.bool false))), none⟩]) .ret) .skip))
    (.seq (.reg [⟨(some 7), (.ldn 3 (.tmp 2)), none⟩, ⟨(some 8), (.pcall 14 [(.tmp 7)]), none⟩, ⟨(some 9), (.ldn 3 (.tmp 2)), none⟩, ⟨(some 10), (.pcall 43 [(.tmp 9)]), none⟩, ⟨(some 11), (.cmp .eql (.tmp 8) (.tmp 10)), none⟩, ⟨(some 12), (.mv (.tmp 11)), none⟩, ⟨(some 13), (.ldn 3 (.tmp 2)), (some (12, true))⟩, ⟨(some 14), (.pcall 15 [(.tmp 13)]), (some (12, true))⟩, ⟨(some 15), (.ldn 3 (.tmp 2)), (some (12, true))⟩, ⟨(some 16), (.pcall 44 [(.tmp 15)]), (some (12, true))⟩, ⟨(some 17), (.cmp .eql (.tmp 14) (.tmp 16)), (some (12, true))⟩, ⟨(some 18), (.pick (.tmp 12) (.tmp 17) (.const (.bool false))), none⟩, ⟨(some 19), (.mv (.tmp 18)), none⟩, ⟨(some 20), (.ldn 3 (.tmp 2)), (some (19, true))⟩, ⟨(some 21), (.ldn 3 (.tmp 3)), (some (19, true))⟩, ⟨(some 22), (.pcall 45 [(.tmp 20), (.tmp 21)]), (some (19, true))⟩, ⟨(some 23), (.ldn 3 (.tmp 2)), (some (19, true))⟩, ⟨(some 24), (.ldn 3 (.tmp 3)), (some (19, true))⟩, ⟨(some 25), (.pcall 46 [(.tmp 23), (.tmp 24)]), (some (19, true))⟩, ⟨(some 26), (.cmp .eql (.tmp 22) (.tmp 25)), (some (19, true))⟩, ⟨(some 27), (.pick (.tmp 19) (.tmp 26) (.const (.bool false))), none⟩, ⟨(some 4), (.mv (.tmp 27)), none⟩]) .ret)))⟩ := by kernel_rfl

/-- allotment/allotmentlaw19.CapOps -/
theorem tr12 : trF Try.prog pures Try.f12 = some
  ⟨52, [(.t 4)],
    (.seq (.reg [⟨(some 2), (.box 23 (.tmp 0)), none⟩, ⟨(some 3), (.box 45 (.tmp 1)), none⟩, ⟨(some 4), (.mv (.const (.bool false))), none⟩])
    (.seq (.seq
    (.reg [⟨(some 8), (.pcall 13 []), none⟩, ⟨(some 9), (.nt (.tmp 8)), none⟩])
    (.cond (.tmp 9)
    (.seq (.reg [⟨(some 4), (.mv (.const (.bool false))), none⟩]) .ret) .skip))
    (.seq (.reg [⟨(some 10), (.ldn 3 (.tmp 2)), none⟩, ⟨(some 11), (.ldn 3 (.tmp 3)), none⟩, ⟨(some 12), (.pcall 45 [(.tmp 10), (.tmp 11)]), none⟩, ⟨(some 5), (.mv (.tmp 12)), none⟩])
    (.seq (.seq
    (.reg [⟨(some 13), (.ldn 3 (.tmp 2)), none⟩, ⟨(some 14), (.pcall 14 [(.tmp 13)]), none⟩, ⟨(some 15), (.cmp .eql (.tmp 14) (.const (.int .i64 0))), none⟩, ⟨(some 16), (.mv (.tmp 15)), none⟩, ⟨(some 17), (.fad 0 (.tmp 3)), (some (16, false))⟩, ⟨(some 18), (.ld1 (.tmp 17)), (some (16, false))⟩, ⟨(some 19), (.cmp .lss (.tmp 18) (.const (.int .i64 1))), (some (16, false))⟩, ⟨(some 20), (.pick (.tmp 16) (.const (.bool true)) (.tmp 19)), none⟩, ⟨(some 21), (.mv (.tmp 20)), none⟩, ⟨(some 22), (.fad 0 (.tmp 3)), (some (21, false))⟩, ⟨(some 23), (.ld1 (.tmp 22)), (some (21, false))⟩, ⟨(some 24), (.cmp .gtr (.tmp 23) (.const (.int .i64 4))), (some (21, false))⟩, ⟨(some 25), (.pick (.tmp 21) (.const (.bool true)) (.tmp 24)), none⟩])
    (.cond (.tmp 25)
    (.seq (.reg [⟨(some 26), (.mv (.tmp 5)), none⟩, ⟨(some 27), (.cmp .eql (.tmp 26) (.const (.int .i64 0))), none⟩, ⟨(some 4), (.mv (.tmp 27)), none⟩]) .ret) .skip))
    (.seq (.reg [⟨(some 29), (.ldn 3 (.tmp 2)), none⟩, ⟨(some 30), (.ldn 3 (.tmp 3)), none⟩, ⟨(some 31), (.pcall 47 [(.tmp 29), (.const (.int .i64 (-1))), (.tmp 30)]), none⟩, ⟨(some 28), (.mv (.tmp 31)), none⟩, ⟨(some 32), (.ext 0 (.tmp 28)), none⟩, ⟨(some 33), (.ext 1 (.tmp 28)), none⟩, ⟨(some 6), (.mv (.tmp 32)), none⟩, ⟨(some 7), (.mv (.tmp 33)), none⟩])
    (.seq (.reg [⟨(some 34), (.mv (.tmp 5)), none⟩, ⟨(some 35), (.cmp .eql (.tmp 34) (.const (.int .i64 0))), none⟩, ⟨(some 36), (.mv (.tmp 7)), none⟩, ⟨(some 37), (.beq false (.tmp 35) (.tmp 36)), none⟩, ⟨(some 38), (.mv (.tmp 37)), none⟩, ⟨(some 39), (.mv (.tmp 7)), (some (38, true))⟩, ⟨(some 40), (.mv (.tmp 39)), (some (38, true))⟩, ⟨(some 41), (.mv (.tmp 5)), (some (40, false))⟩, ⟨(some 42), (.ldn 3 (.tmp 2)), (some (40, false))⟩, ⟨(some 43), (.pcall 14 [(.tmp 42)]), (some (40, false))⟩, ⟨(some 44), (.cmp .eql (.tmp 41) (.tmp 43)), (some (40, false))⟩, ⟨(some 45), (.pick (.tmp 40) (.const (.bool true)) (.tmp 44)), (some (38, true))⟩, ⟨(some 46), (.pick (.tmp 38) (.tmp 45) (.const (.bool false))), none⟩, ⟨(some 47), (.mv (.tmp 46)), none⟩, ⟨(some 48), (.ldn 3 (.tmp 2)), (some (47, true))⟩, ⟨(some 49), (.pcall 15 [(.tmp 48)]), (some (47, true))⟩, ⟨(some 50), (.cmp .geq (.tmp 49) (.const (.int .i64 1024))), (some (47, true))⟩, ⟨(some 51), (.pick (.tmp 47) (.tmp 50) (.const (.bool false))), none⟩, ⟨(some 4), (.mv (.tmp 51)), none⟩]) .ret))))))⟩ := by kernel_rfl

/-- allotment/allotmentlaw19.awake -/
theorem tr13 : trF Try.prog pures Try.f13 = some
  ⟨11, [(.t 0)],
    (.seq (.reg [⟨(some 0), (.mv (.const (.bool false))), none⟩])
    (.seq (.reg [⟨(some 2), (.bld #[(.int .i64 0), (.int .i64 0), (.int .i64 0)] [(0, (1, (.const (.int .i64 2)))), (1, (1, (.const (.int .i64 1)))), (2, (1, (.const (.int .i64 1))))]), none⟩, ⟨(some 1), (.alc 23 (.agg #[(.int .i64 0), (.int .i64 0), (.int .i64 0)])), none⟩, ⟨none, (.stn 3 (.tmp 1) (.tmp 2)), none⟩])
    (.seq (.reg [⟨(some 3), (.ldn 3 (.tmp 1)), none⟩, ⟨(some 4), (.pcall 14 [(.tmp 3)]), none⟩, ⟨(some 5), (.cmp .eql (.tmp 4) (.const (.int .i64 284))), none⟩, ⟨(some 6), (.mv (.tmp 5)), none⟩, ⟨(some 7), (.ldn 3 (.tmp 1)), (some (6, true))⟩, ⟨(some 8), (.pcall 15 [(.tmp 7)]), (some (6, true))⟩, ⟨(some 9), (.cmp .eql (.tmp 8) (.const (.int .i64 1056))), (some (6, true))⟩, ⟨(some 10), (.pick (.tmp 6) (.tmp 9) (.const (.bool false))), none⟩, ⟨(some 0), (.mv (.tmp 10)), none⟩]) .ret)))⟩ := by kernel_rfl

/-- allotment/cap.Steps -/
theorem tr14 : trF Try.prog pures Try.f14 = some
  ⟨14, [(.t 2)],
    (.seq (.reg [⟨(some 1), (.box 23 (.tmp 0)), none⟩, ⟨(some 2), (.mv (.const (.int .i64 0))), none⟩])
    (.seq (.seq
    (.reg [⟨(some 3), (.ldn 3 (.tmp 1)), none⟩, ⟨(some 4), (.pcall 17 [(.tmp 3)]), none⟩, ⟨(some 5), (.nt (.tmp 4)), none⟩])
    (.cond (.tmp 5)
    (.seq (.reg [⟨(some 2), (.mv (.const (.int .i64 0))), none⟩]) .ret) .skip))
    (.seq (.reg [⟨(some 6), (.fad 0 (.tmp 1)), none⟩, ⟨(some 7), (.ld1 (.tmp 6)), none⟩, ⟨(some 8), (.ar .mul (.const (.int .i64 110)) (.tmp 7)), none⟩, ⟨(some 9), (.fad 2 (.tmp 1)), none⟩, ⟨(some 10), (.ld1 (.tmp 9)), none⟩, ⟨(some 11), (.ar .mul (.const (.int .i64 4)) (.tmp 10)), none⟩, ⟨(some 12), (.ar .add (.tmp 8) (.tmp 11)), none⟩, ⟨(some 13), (.ar .add (.tmp 12) (.const (.int .i64 60))), none⟩, ⟨(some 2), (.mv (.tmp 13)), none⟩]) .ret)))⟩ := by kernel_rfl

/-- allotment/cap.Leak -/
theorem tr15 : trF Try.prog pures Try.f15 = some
  ⟨10, [(.t 2)],
    (.seq (.reg [⟨(some 1), (.box 23 (.tmp 0)), none⟩, ⟨(some 2), (.mv (.const (.int .i64 0))), none⟩])
    (.seq (.seq
    (.reg [⟨(some 3), (.ldn 3 (.tmp 1)), none⟩, ⟨(some 4), (.pcall 17 [(.tmp 3)]), none⟩, ⟨(some 5), (.nt (.tmp 4)), none⟩])
    (.cond (.tmp 5)
    (.seq (.reg [⟨(some 2), (.mv (.const (.int .i64 0))), none⟩]) .ret) .skip))
    (.seq (.reg [⟨(some 6), (.fad 2 (.tmp 1)), none⟩, ⟨(some 7), (.ld1 (.tmp 6)), none⟩, ⟨(some 8), (.ar .mul (.const (.int .i64 32)) (.tmp 7)), none⟩, ⟨(some 9), (.ar .add (.tmp 8) (.const (.int .i64 1024))), none⟩, ⟨(some 2), (.mv (.tmp 9)), none⟩]) .ret)))⟩ := by kernel_rfl

/-- allotment/allotmentlaw3.awake -/
theorem tr16 : trF Try.prog pures Try.f16 = some
  ⟨37, [(.t 0)],
    (.seq (.reg [⟨(some 0), (.mv (.const (.bool false))), none⟩])
    (.seq (.reg [⟨(some 7), (.pcall 19 [(.const (.int .i64 5))]), none⟩, ⟨(some 6), (.mv (.tmp 7)), none⟩, ⟨(some 8), (.ext 0 (.tmp 6)), none⟩, ⟨(some 9), (.ext 1 (.tmp 6)), none⟩, ⟨(some 1), (.mv (.tmp 8)), none⟩, ⟨(some 2), (.mv (.tmp 9)), none⟩])
    (.seq (.reg [⟨(some 11), (.pcall 21 [(.const (.int .i64 65))]), none⟩, ⟨(some 10), (.mv (.tmp 11)), none⟩, ⟨(some 12), (.ext 0 (.tmp 10)), none⟩, ⟨(some 13), (.ext 1 (.tmp 10)), none⟩, ⟨(some 3), (.mv (.tmp 12)), none⟩, ⟨(some 4), (.mv (.tmp 13)), none⟩])
    (.seq (.reg [⟨(some 14), (.bld #[(.int .i64 0), (.int .i64 0), (.int .i64 0)] [(0, (1, (.const (.int .i64 2)))), (1, (1, (.const (.int .i64 1)))), (2, (1, (.const (.int .i64 3))))]), none⟩, ⟨(some 5), (.alc 23 (.agg #[(.int .i64 0), (.int .i64 0), (.int .i64 0)])), none⟩, ⟨none, (.stn 3 (.tmp 5) (.tmp 14)), none⟩])
    (.seq (.reg [⟨(some 15), (.mv (.tmp 2)), none⟩, ⟨(some 16), (.mv (.tmp 15)), none⟩, ⟨(some 17), (.mv (.tmp 4)), (some (16, true))⟩, ⟨(some 18), (.pick (.tmp 16) (.tmp 17) (.const (.bool false))), none⟩, ⟨(some 19), (.mv (.tmp 18)), none⟩, ⟨(some 20), (.mv (.tmp 1)), (some (19, true))⟩, ⟨(some 21), (.cmp .eql (.tmp 20) (.const (.int .i64 1))), (some (19, true))⟩, ⟨(some 22), (.pick (.tmp 19) (.tmp 21) (.const (.bool false))), none⟩, ⟨(some 23), (.mv (.tmp 22)), none⟩, ⟨(some 24), (.mv (.tmp 3)), (some (23, true))⟩, ⟨(some 25), (.cmp .eql (.tmp 24) (.const (.int .i64 2))), (some (23, true))⟩, ⟨(some 26), (.pick (.tmp 23) (.tmp 25) (.const (.bool false))), none⟩, ⟨(some 27), (.mv (.tmp 26)), none⟩, ⟨(some 28), (.ldn 3 (.tmp 5)), (some (27, true))⟩, ⟨(some 29), (.pcall 18 [(.tmp 28)]), (some (27, true))⟩, ⟨(some 30), (.cmp .eql (.tmp 29) (.const (.int .i64 38))), (some (27, true))⟩, ⟨(some 31), (.pick (.tmp 27) (.tmp 30) (.const (.bool false))), none⟩, ⟨(some 32), (.mv (.tmp 31)), none⟩, ⟨(some 33), (.ldn 3 (.tmp 5)), (some (32, true))⟩, ⟨(some 34), (.pcall 31 [(.tmp 33), (.const (.int .i64 1)), (.const (.int .i64 2))]), (some (32, true))⟩, ⟨(some 35), (.cmp .eql (.tmp 34) (.const (.int .i64 21))), (some (32, true))⟩, ⟨(some 36), (.pick (.tmp 32) (.tmp 35) (.const (.bool false))), none⟩, ⟨(some 0), (.mv (.tmp 36)), none⟩]) .ret)))))⟩ := by kernel_rfl

/-- allotment/plan.May -/
theorem tr17 : trF Try.prog pures Try.f17 = some
  ⟨16, [(.t 2)],
    (.seq (.reg [⟨(some 1), (.box 23 (.tmp 0)), none⟩, ⟨(some 2), (.mv (.const (.bool false))), none⟩])
    (.seq (.reg [⟨(some 3), (.fad 0 (.tmp 1)), none⟩, ⟨(some 4), (.ld1 (.tmp 3)), none⟩, ⟨(some 5), (.pcall 48 [(.tmp 4), (.const (.int .i64 1)), (.const (.int .i64 64))]), none⟩, ⟨(some 6), (.mv (.tmp 5)), none⟩, ⟨(some 7), (.fad 1 (.tmp 1)), (some (6, true))⟩, ⟨(some 8), (.ld1 (.tmp 7)), (some (6, true))⟩, ⟨(some 9), (.pcall 48 [(.tmp 8), (.const (.int .i64 1)), (.const (.int .i64 12))]), (some (6, true))⟩, ⟨(some 10), (.pick (.tmp 6) (.tmp 9) (.const (.bool false))), none⟩, ⟨(some 11), (.mv (.tmp 10)), none⟩, ⟨(some 12), (.fad 2 (.tmp 1)), (some (11, true))⟩, ⟨(some 13), (.ld1 (.tmp 12)), (some (11, true))⟩, ⟨(some 14), (.pcall 48 [(.tmp 13), (.const (.int .i64 0)), (.const (.int .i64 8))]), (some (11, true))⟩, ⟨(some 15), (.pick (.tmp 11) (.tmp 14) (.const (.bool false))), none⟩, ⟨(some 2), (.mv (.tmp 15)), none⟩]) .ret))⟩ := by kernel_rfl

/-- allotment/plan.Words -/
theorem tr18 : trF Try.prog pures Try.f18 = some
  ⟨21, [(.t 2)],
    (.seq (.reg [⟨(some 1), (.box 23 (.tmp 0)), none⟩, ⟨(some 2), (.mv (.const (.int .i64 0))), none⟩])
    (.seq (.seq
    (.reg [⟨(some 3), (.ldn 3 (.tmp 1)), none⟩, ⟨(some 4), (.pcall 17 [(.tmp 3)]), none⟩, ⟨(some 5), (.nt (.tmp 4)), none⟩])
    (.cond (.tmp 5)
    (.seq (.reg [⟨(some 2), (.mv (.const (.int .i64 0))), none⟩]) .ret) .skip))
    (.seq (.reg [⟨(some 6), (.fad 1 (.tmp 1)), none⟩, ⟨(some 7), (.ld1 (.tmp 6)), none⟩, ⟨(some 8), (.fad 0 (.tmp 1)), none⟩, ⟨(some 9), (.ld1 (.tmp 8)), none⟩, ⟨(some 10), (.ar .add (.tmp 7) (.tmp 9)), none⟩, ⟨(some 11), (.fad 0 (.tmp 1)), none⟩, ⟨(some 12), (.ld1 (.tmp 11)), none⟩, ⟨(some 13), (.ar .mul (.tmp 12) (.const (.int .i64 16))), none⟩, ⟨(some 14), (.ar .add (.tmp 10) (.tmp 13)), none⟩, ⟨(some 15), (.fad 1 (.tmp 1)), none⟩, ⟨(some 16), (.ld1 (.tmp 15)), none⟩, ⟨(some 17), (.fad 2 (.tmp 1)), none⟩, ⟨(some 18), (.ld1 (.tmp 17)), none⟩, ⟨(some 19), (.ar .mul (.tmp 16) (.tmp 18)), none⟩, ⟨(some 20), (.ar .add (.tmp 14) (.tmp 19)), none⟩, ⟨(some 2), (.mv (.tmp 20)), none⟩]) .ret)))⟩ := by kernel_rfl

/-- allotment/plan.Class -/
theorem tr19 : trF Try.prog pures Try.f19 = some
  ⟨15, [(.t 2), (.t 3)],
    (.seq (.reg [⟨(some 2), (.mv (.const (.int .i64 0))), none⟩, ⟨(some 3), (.mv (.const (.bool false))), none⟩])
    (.seq (.seq
    (.reg [⟨(some 5), (.mv (.tmp 0)), none⟩, ⟨(some 6), (.pcall 48 [(.tmp 5), (.const (.int .i64 1)), (.const (.int .i64 32))]), none⟩, ⟨(some 7), (.nt (.tmp 6)), none⟩])
    (.cond (.tmp 7)
    (.seq (.reg [⟨(some 2), (.mv (.const (.int .i64 0))), none⟩, ⟨(some 3), (.mv (.const (.bool false))), none⟩]) .ret) .skip))
    (.seq (.reg [⟨(some 4), (.mv (.const (.int .i64 0))), none⟩])
    (.seq (.block 0
    (.loop (.seq
    (.seq (.reg [⟨(some 8), (.mv (.tmp 4)), none⟩, ⟨(some 9), (.pcall 20 [(.tmp 8)]), none⟩, ⟨(some 10), (.mv (.tmp 0)), none⟩, ⟨(some 11), (.cmp .lss (.tmp 9) (.tmp 10)), none⟩])
    (.cond (.tmp 11) .skip (.exit 0)))
    (.block 1
    (.reg [⟨(some 12), (.mv (.tmp 4)), none⟩, ⟨(some 13), (.ar .add (.tmp 12) (.const (.int .i64 1))), none⟩, ⟨(some 4), (.mv (.tmp 13)), none⟩])))))
    (.seq (.reg [⟨(some 14), (.mv (.tmp 4)), none⟩, ⟨(some 2), (.mv (.tmp 14)), none⟩, ⟨(some 3), (.mv (.const (.bool true))), none⟩]) .ret)))))⟩ := by kernel_rfl

/-- allotment/plan.Size -/
theorem tr20 : trF Try.prog pures Try.f20 = some
  ⟨8, [(.t 2)],
    (.seq (.reg [⟨(some 2), (.mv (.const (.int .i64 0))), none⟩])
    (.seq (.seq
    (.reg [⟨(some 3), (.mv (.tmp 0)), none⟩, ⟨(some 4), (.pcall 48 [(.tmp 3), (.const (.int .i64 0)), (.const (.int .i64 3))]), none⟩, ⟨(some 5), (.nt (.tmp 4)), none⟩])
    (.cond (.tmp 5)
    (.seq (.reg [⟨(some 2), (.mv (.const (.int .i64 0))), none⟩]) .ret) .skip))
    (.seq (.reg [⟨(some 6), (.mv (.tmp 0)), none⟩, ⟨(some 7), (.sh .shl (.const (.int .i64 4)) (.tmp 6)), none⟩, ⟨(some 2), (.mv (.tmp 7)), none⟩]) .ret)))⟩ := by kernel_rfl

/-- allotment/plan.Run -/
theorem tr21 : trF Try.prog pures Try.f21 = some
  ⟨11, [(.t 2), (.t 3)],
    (.seq (.reg [⟨(some 2), (.mv (.const (.int .i64 0))), none⟩, ⟨(some 3), (.mv (.const (.bool false))), none⟩])
    (.seq (.seq
    (.reg [⟨(some 4), (.mv (.tmp 0)), none⟩, ⟨(some 5), (.pcall 48 [(.tmp 4), (.const (.int .i64 33)), (.const (.int .i64 512))]), none⟩, ⟨(some 6), (.nt (.tmp 5)), none⟩])
    (.cond (.tmp 6)
    (.seq (.reg [⟨(some 2), (.mv (.const (.int .i64 0))), none⟩, ⟨(some 3), (.mv (.const (.bool false))), none⟩]) .ret) .skip))
    (.seq (.reg [⟨(some 7), (.mv (.tmp 0)), none⟩, ⟨(some 8), (.ar .sub (.tmp 7) (.const (.int .i64 1))), none⟩, ⟨(some 9), (.sh .shr (.tmp 8) (.const (.int .u64 6))), none⟩, ⟨(some 10), (.ar .add (.tmp 9) (.const (.int .i64 1))), none⟩, ⟨(some 2), (.mv (.tmp 10)), none⟩, ⟨(some 3), (.mv (.const (.bool true))), none⟩]) .ret)))⟩ := by kernel_rfl

/-- allotment/plan.Length -/
theorem tr22 : trF Try.prog pures Try.f22 = some
  ⟨24, [(.t 2), (.t 3)],
    (.seq (.reg [⟨(some 2), (.mv (.const (.int .i64 0))), none⟩, ⟨(some 3), (.mv (.const (.bool false))), none⟩])
    (.seq (.seq
    (.reg [⟨(some 9), (.mv (.tmp 0)), none⟩, ⟨(some 10), (.pcall 19 [(.tmp 9)]), none⟩, ⟨(some 8), (.mv (.tmp 10)), none⟩, ⟨(some 11), (.ext 0 (.tmp 8)), none⟩, ⟨(some 12), (.ext 1 (.tmp 8)), none⟩, ⟨(some 4), (.mv (.tmp 11)), none⟩, ⟨(some 5), (.mv (.tmp 12)), none⟩])
    (.seq (.reg [⟨(some 13), (.mv (.tmp 5)), none⟩])
    (.cond (.tmp 13)
    (.seq (.reg [⟨(some 14), (.mv (.tmp 4)), none⟩, ⟨(some 15), (.pcall 20 [(.tmp 14)]), none⟩, ⟨(some 2), (.mv (.tmp 15)), none⟩, ⟨(some 3), (.mv (.const (.bool true))), none⟩]) .ret) .skip)))
    (.seq (.reg [⟨(some 17), (.mv (.tmp 0)), none⟩, ⟨(some 18), (.pcall 21 [(.tmp 17)]), none⟩, ⟨(some 16), (.mv (.tmp 18)), none⟩, ⟨(some 19), (.ext 0 (.tmp 16)), none⟩, ⟨(some 20), (.ext 1 (.tmp 16)), none⟩, ⟨(some 6), (.mv (.tmp 19)), none⟩, ⟨(some 7), (.mv (.tmp 20)), none⟩])
    (.seq (.reg [⟨(some 21), (.mv (.tmp 6)), none⟩, ⟨(some 22), (.sh .shl (.tmp 21) (.const (.int .u64 6))), none⟩, ⟨(some 23), (.mv (.tmp 7)), none⟩, ⟨(some 2), (.mv (.tmp 22)), none⟩, ⟨(some 3), (.mv (.tmp 23)), none⟩]) .ret))))⟩ := by kernel_rfl

/-- allotment/plan.Split -/
theorem tr23 : trF Try.prog pures Try.f23 = some
  ⟨23, [(.t 4), (.t 5), (.t 6)],
    (.seq (.reg [⟨(some 2), (.box 23 (.tmp 0)), none⟩, ⟨(some 4), (.mv (.const (.int .i64 0))), none⟩, ⟨(some 5), (.mv (.const (.int .i64 0))), none⟩, ⟨(some 6), (.mv (.const (.bool false))), none⟩])
    (.seq (.seq
    (.reg [⟨(some 7), (.ldn 3 (.tmp 2)), none⟩, ⟨(some 8), (.pcall 17 [(.tmp 7)]), none⟩, ⟨(some 9), (.nt (.tmp 8)), none⟩, ⟨(some 10), (.mv (.tmp 9)), none⟩, ⟨(some 11), (.mv (.tmp 1)), (some (10, false))⟩, ⟨(some 12), (.fad 0 (.tmp 2)), (some (10, false))⟩, ⟨(some 13), (.ld1 (.tmp 12)), (some (10, false))⟩, ⟨(some 14), (.sh .shl (.tmp 13) (.const (.int .u64 6))), (some (10, false))⟩, ⟨(some 15), (.ar .sub (.tmp 14) (.const (.int .i64 1))), (some (10, false))⟩, ⟨(some 16), (.pcall 48 [(.tmp 11), (.const (.int .i64 0)), (.tmp 15)]), (some (10, false))⟩, ⟨(some 17), (.nt (.tmp 16)), (some (10, false))⟩, ⟨(some 18), (.pick (.tmp 10) (.const (.bool true)) (.tmp 17)), none⟩])
    (.cond (.tmp 18)
    (.seq (.reg [⟨(some 4), (.mv (.const (.int .i64 0))), none⟩, ⟨(some 5), (.mv (.const (.int .i64 0))), none⟩, ⟨(some 6), (.mv (.const (.bool false))), none⟩]) .ret) .skip))
    (.seq (.reg [⟨(some 19), (.mv (.tmp 1)), none⟩, ⟨(some 20), (.sh .shr (.tmp 19) (.const (.int .u64 6))), none⟩, ⟨(some 21), (.mv (.tmp 1)), none⟩, ⟨(some 22), (.bt .and (.tmp 21) (.const (.int .i64 63))), none⟩, ⟨(some 4), (.mv (.tmp 20)), none⟩, ⟨(some 5), (.mv (.tmp 22)), none⟩, ⟨(some 6), (.mv (.const (.bool true))), none⟩]) .ret)))⟩ := by kernel_rfl

/-- allotment/allotmentref1.May -/
theorem tr24 : trF Try.prog pures Try.f24 = some
  ⟨31, [(.t 2)],
    (.seq (.reg [⟨(some 1), (.box 23 (.tmp 0)), none⟩, ⟨(some 2), (.mv (.const (.bool false))), none⟩])
    (.seq (.reg [⟨(some 3), (.fad 0 (.tmp 1)), none⟩, ⟨(some 4), (.ld1 (.tmp 3)), none⟩, ⟨(some 5), (.cmp .geq (.tmp 4) (.const (.int .i64 1))), none⟩, ⟨(some 6), (.mv (.tmp 5)), none⟩, ⟨(some 7), (.fad 0 (.tmp 1)), (some (6, true))⟩, ⟨(some 8), (.ld1 (.tmp 7)), (some (6, true))⟩, ⟨(some 9), (.cmp .leq (.tmp 8) (.const (.int .i64 64))), (some (6, true))⟩, ⟨(some 10), (.pick (.tmp 6) (.tmp 9) (.const (.bool false))), none⟩, ⟨(some 11), (.mv (.tmp 10)), none⟩, ⟨(some 12), (.fad 1 (.tmp 1)), (some (11, true))⟩, ⟨(some 13), (.ld1 (.tmp 12)), (some (11, true))⟩, ⟨(some 14), (.cmp .geq (.tmp 13) (.const (.int .i64 1))), (some (11, true))⟩, ⟨(some 15), (.pick (.tmp 11) (.tmp 14) (.const (.bool false))), none⟩, ⟨(some 16), (.mv (.tmp 15)), none⟩, ⟨(some 17), (.fad 1 (.tmp 1)), (some (16, true))⟩, ⟨(some 18), (.ld1 (.tmp 17)), (some (16, true))⟩, ⟨(some 19), (.cmp .leq (.tmp 18) (.const (.int .i64 12))), (some (16, true))⟩, ⟨(some 20), (.pick (.tmp 16) (.tmp 19) (.const (.bool false))), none⟩, ⟨(some 21), (.mv (.tmp 20)), none⟩, ⟨(some 22), (.fad 2 (.tmp 1)), (some (21, true))⟩, ⟨(some 23), (.ld1 (.tmp 22)), (some (21, true))⟩, ⟨(some 24), (.cmp .geq (.tmp 23) (.const (.int .i64 0))), (some (21, true))⟩, ⟨(some 25), (.pick (.tmp 21) (.tmp 24) (.const (.bool false))), none⟩, ⟨(some 26), (.mv (.tmp 25)), none⟩, ⟨(some 27), (.fad 2 (.tmp 1)), (some (26, true))⟩, ⟨(some 28), (.ld1 (.tmp 27)), (some (26, true))⟩, ⟨(some 29), (.cmp .leq (.tmp 28) (.const (.int .i64 8))), (some (26, true))⟩, ⟨(some 30), (.pick (.tmp 26) (.tmp 29) (.const (.bool false))), none⟩, ⟨(some 2), (.mv (.tmp 30)), none⟩]) .ret))⟩ := by kernel_rfl

/-- allotment/plan.Address -/
theorem tr25 : trF Try.prog pures Try.f25 = some
  ⟨14, [(.t 6)],
    (.seq (.reg [⟨(some 6), (.mv (.const (.int .i64 0))), none⟩])
    (.seq (.reg [⟨(some 7), (.mv (.tmp 0)), none⟩, ⟨(some 8), (.sh .shl (.tmp 7) (.const (.int .u64 6))), none⟩, ⟨(some 9), (.mv (.tmp 1)), none⟩, ⟨(some 10), (.mv (.tmp 2)), none⟩, ⟨(some 11), (.pcall 20 [(.tmp 10)]), none⟩, ⟨(some 12), (.ar .mul (.tmp 9) (.tmp 11)), none⟩, ⟨(some 13), (.ar .add (.tmp 8) (.tmp 12)), none⟩, ⟨(some 6), (.mv (.tmp 13)), none⟩]) .ret))⟩ := by kernel_rfl

/-- allotment/plan.Slots -/
theorem tr26 : trF Try.prog pures Try.f26 = some
  ⟨8, [(.t 2)],
    (.seq (.reg [⟨(some 2), (.mv (.const (.int .i64 0))), none⟩])
    (.seq (.seq
    (.reg [⟨(some 3), (.mv (.tmp 0)), none⟩, ⟨(some 4), (.pcall 48 [(.tmp 3), (.const (.int .i64 0)), (.const (.int .i64 3))]), none⟩, ⟨(some 5), (.nt (.tmp 4)), none⟩])
    (.cond (.tmp 5)
    (.seq (.reg [⟨(some 2), (.mv (.const (.int .i64 0))), none⟩]) .ret) .skip))
    (.seq (.reg [⟨(some 6), (.mv (.tmp 0)), none⟩, ⟨(some 7), (.sh .shr (.const (.int .i64 16)) (.tmp 6)), none⟩, ⟨(some 2), (.mv (.tmp 7)), none⟩]) .ret)))⟩ := by kernel_rfl

/-- allotment/allotmentlaw3.count -/
theorem tr27 : trF Try.prog pures Try.f27 = some
  ⟨19, [(.t 4)],
    (.seq (.reg [⟨(some 4), (.mv (.const (.int .i64 0))), none⟩])
    (.seq (.seq
    (.reg [⟨(some 5), (.mv (.tmp 1)), none⟩, ⟨(some 6), (.cmp .lss (.tmp 5) (.const (.int .i64 0))), none⟩, ⟨(some 7), (.mv (.tmp 6)), none⟩, ⟨(some 8), (.mv (.tmp 1)), (some (7, false))⟩, ⟨(some 9), (.mv (.tmp 0)), (some (7, false))⟩, ⟨(some 10), (.len (.tmp 9)), (some (7, false))⟩, ⟨(some 11), (.cmp .geq (.tmp 8) (.tmp 10)), (some (7, false))⟩, ⟨(some 12), (.pick (.tmp 7) (.const (.bool true)) (.tmp 11)), none⟩])
    (.cond (.tmp 12)
    (.seq (.reg [⟨(some 4), (.mv (.const (.int .i64 0))), none⟩]) .ret) .skip))
    (.seq (.reg [⟨(some 13), (.mv (.tmp 0)), none⟩, ⟨(some 14), (.mv (.tmp 1)), none⟩, ⟨(some 15), (.iad 1 (.tmp 13) (.tmp 14)), none⟩, ⟨(some 16), (.ld1 (.tmp 15)), none⟩, ⟨(some 17), (.ar .add (.tmp 16) (.const (.int .i64 1))), none⟩, ⟨(some 18), (.iad 1 (.tmp 13) (.tmp 14)), none⟩, ⟨none, (.st1 (.tmp 18) (.tmp 17)), none⟩])
    (.seq (.reg [⟨(some 4), (.mv (.const (.int .i64 1))), none⟩]) .ret))))⟩ := by kernel_rfl

/-- allotment/plan.Status -/
theorem tr28 : trF Try.prog pures Try.f28 = some
  ⟨17, [(.t 4)],
    (.seq (.reg [⟨(some 2), (.box 23 (.tmp 0)), none⟩, ⟨(some 4), (.mv (.const (.int .i64 0))), none⟩])
    (.seq (.seq
    (.reg [⟨(some 5), (.ldn 3 (.tmp 2)), none⟩, ⟨(some 6), (.pcall 17 [(.tmp 5)]), none⟩, ⟨(some 7), (.nt (.tmp 6)), none⟩, ⟨(some 8), (.mv (.tmp 7)), none⟩, ⟨(some 9), (.mv (.tmp 1)), (some (8, false))⟩, ⟨(some 10), (.fad 1 (.tmp 2)), (some (8, false))⟩, ⟨(some 11), (.ld1 (.tmp 10)), (some (8, false))⟩, ⟨(some 12), (.ar .sub (.tmp 11) (.const (.int .i64 1))), (some (8, false))⟩, ⟨(some 13), (.pcall 48 [(.tmp 9), (.const (.int .i64 0)), (.tmp 12)]), (some (8, false))⟩, ⟨(some 14), (.nt (.tmp 13)), (some (8, false))⟩, ⟨(some 15), (.pick (.tmp 8) (.const (.bool true)) (.tmp 14)), none⟩])
    (.cond (.tmp 15)
    (.seq (.reg [⟨(some 4), (.mv (.const (.int .i64 (-1)))), none⟩]) .ret) .skip))
    (.seq (.reg [⟨(some 16), (.mv (.tmp 1)), none⟩, ⟨(some 4), (.mv (.tmp 16)), none⟩]) .ret)))⟩ := by kernel_rfl

/-- allotment/plan.Mag -/
theorem tr29 : trF Try.prog pures Try.f29 = some
  ⟨42, [(.t 6)],
    (.seq (.reg [⟨(some 3), (.box 23 (.tmp 0)), none⟩, ⟨(some 6), (.mv (.const (.int .i64 0))), none⟩])
    (.seq (.seq
    (.reg [⟨(some 7), (.ldn 3 (.tmp 3)), none⟩, ⟨(some 8), (.pcall 17 [(.tmp 7)]), none⟩, ⟨(some 9), (.nt (.tmp 8)), none⟩, ⟨(some 10), (.mv (.tmp 9)), none⟩, ⟨(some 11), (.mv (.tmp 1)), (some (10, false))⟩, ⟨(some 12), (.fad 1 (.tmp 3)), (some (10, false))⟩, ⟨(some 13), (.ld1 (.tmp 12)), (some (10, false))⟩, ⟨(some 14), (.ar .sub (.tmp 13) (.const (.int .i64 1))), (some (10, false))⟩, ⟨(some 15), (.pcall 48 [(.tmp 11), (.const (.int .i64 0)), (.tmp 14)]), (some (10, false))⟩, ⟨(some 16), (.nt (.tmp 15)), (some (10, false))⟩, ⟨(some 17), (.pick (.tmp 10) (.const (.bool true)) (.tmp 16)), none⟩, ⟨(some 18), (.mv (.tmp 17)), none⟩, ⟨(some 19), (.mv (.tmp 2)), (some (18, false))⟩, ⟨(some 20), (.fad 2 (.tmp 3)), (some (18, false))⟩, ⟨(some 21), (.ld1 (.tmp 20)), (some (18, false))⟩, ⟨(some 22), (.ar .sub (.tmp 21) (.const (.int .i64 1))), (some (18, false))⟩, ⟨(some 23), (.pcall 48 [(.tmp 19), (.const (.int .i64 0)), (.tmp 22)]), (some (18, false))⟩, ⟨(some 24), (.nt (.tmp 23)), (some (18, false))⟩, ⟨(some 25), (.pick (.tmp 18) (.const (.bool true)) (.tmp 24)), none⟩])
    (.cond (.tmp 25)
    (.seq (.reg [⟨(some 6), (.mv (.const (.int .i64 (-1)))), none⟩]) .ret) .skip))
    (.seq (.reg [⟨(some 26), (.fad 1 (.tmp 3)), none⟩, ⟨(some 27), (.ld1 (.tmp 26)), none⟩, ⟨(some 28), (.fad 0 (.tmp 3)), none⟩, ⟨(some 29), (.ld1 (.tmp 28)), none⟩, ⟨(some 30), (.ar .add (.tmp 27) (.tmp 29)), none⟩, ⟨(some 31), (.fad 0 (.tmp 3)), none⟩, ⟨(some 32), (.ld1 (.tmp 31)), none⟩, ⟨(some 33), (.ar .mul (.tmp 32) (.const (.int .i64 16))), none⟩, ⟨(some 34), (.ar .add (.tmp 30) (.tmp 33)), none⟩, ⟨(some 35), (.mv (.tmp 1)), none⟩, ⟨(some 36), (.fad 2 (.tmp 3)), none⟩, ⟨(some 37), (.ld1 (.tmp 36)), none⟩, ⟨(some 38), (.ar .mul (.tmp 35) (.tmp 37)), none⟩, ⟨(some 39), (.ar .add (.tmp 34) (.tmp 38)), none⟩, ⟨(some 40), (.mv (.tmp 2)), none⟩, ⟨(some 41), (.ar .add (.tmp 39) (.tmp 40)), none⟩, ⟨(some 6), (.mv (.tmp 41)), none⟩]) .ret)))⟩ := by kernel_rfl

/-- allotment/plan.Page -/
theorem tr30 : trF Try.prog pures Try.f30 = some
  ⟨20, [(.t 4)],
    (.seq (.reg [⟨(some 2), (.box 23 (.tmp 0)), none⟩, ⟨(some 4), (.mv (.const (.int .i64 0))), none⟩])
    (.seq (.seq
    (.reg [⟨(some 5), (.ldn 3 (.tmp 2)), none⟩, ⟨(some 6), (.pcall 17 [(.tmp 5)]), none⟩, ⟨(some 7), (.nt (.tmp 6)), none⟩, ⟨(some 8), (.mv (.tmp 7)), none⟩, ⟨(some 9), (.mv (.tmp 1)), (some (8, false))⟩, ⟨(some 10), (.fad 0 (.tmp 2)), (some (8, false))⟩, ⟨(some 11), (.ld1 (.tmp 10)), (some (8, false))⟩, ⟨(some 12), (.ar .sub (.tmp 11) (.const (.int .i64 1))), (some (8, false))⟩, ⟨(some 13), (.pcall 48 [(.tmp 9), (.const (.int .i64 0)), (.tmp 12)]), (some (8, false))⟩, ⟨(some 14), (.nt (.tmp 13)), (some (8, false))⟩, ⟨(some 15), (.pick (.tmp 8) (.const (.bool true)) (.tmp 14)), none⟩])
    (.cond (.tmp 15)
    (.seq (.reg [⟨(some 4), (.mv (.const (.int .i64 (-1)))), none⟩]) .ret) .skip))
    (.seq (.reg [⟨(some 16), (.fad 1 (.tmp 2)), none⟩, ⟨(some 17), (.ld1 (.tmp 16)), none⟩, ⟨(some 18), (.mv (.tmp 1)), none⟩, ⟨(some 19), (.ar .add (.tmp 17) (.tmp 18)), none⟩, ⟨(some 4), (.mv (.tmp 19)), none⟩]) .ret)))⟩ := by kernel_rfl

/-- allotment/plan.Slot -/
theorem tr31 : trF Try.prog pures Try.f31 = some
  ⟨33, [(.t 6)],
    (.seq (.reg [⟨(some 3), (.box 23 (.tmp 0)), none⟩, ⟨(some 6), (.mv (.const (.int .i64 0))), none⟩])
    (.seq (.seq
    (.reg [⟨(some 7), (.ldn 3 (.tmp 3)), none⟩, ⟨(some 8), (.pcall 17 [(.tmp 7)]), none⟩, ⟨(some 9), (.nt (.tmp 8)), none⟩, ⟨(some 10), (.mv (.tmp 9)), none⟩, ⟨(some 11), (.mv (.tmp 1)), (some (10, false))⟩, ⟨(some 12), (.fad 0 (.tmp 3)), (some (10, false))⟩, ⟨(some 13), (.ld1 (.tmp 12)), (some (10, false))⟩, ⟨(some 14), (.ar .sub (.tmp 13) (.const (.int .i64 1))), (some (10, false))⟩, ⟨(some 15), (.pcall 48 [(.tmp 11), (.const (.int .i64 0)), (.tmp 14)]), (some (10, false))⟩, ⟨(some 16), (.nt (.tmp 15)), (some (10, false))⟩, ⟨(some 17), (.pick (.tmp 10) (.const (.bool true)) (.tmp 16)), none⟩, ⟨(some 18), (.mv (.tmp 17)), none⟩, ⟨(some 19), (.mv (.tmp 2)), (some (18, false))⟩, ⟨(some 20), (.pcall 48 [(.tmp 19), (.const (.int .i64 0)), (.const (.int .i64 15))]), (some (18, false))⟩, ⟨(some 21), (.nt (.tmp 20)), (some (18, false))⟩, ⟨(some 22), (.pick (.tmp 18) (.const (.bool true)) (.tmp 21)), none⟩])
    (.cond (.tmp 22)
    (.seq (.reg [⟨(some 6), (.mv (.const (.int .i64 (-1)))), none⟩]) .ret) .skip))
    (.seq (.reg [⟨(some 23), (.fad 1 (.tmp 3)), none⟩, ⟨(some 24), (.ld1 (.tmp 23)), none⟩, ⟨(some 25), (.fad 0 (.tmp 3)), none⟩, ⟨(some 26), (.ld1 (.tmp 25)), none⟩, ⟨(some 27), (.ar .add (.tmp 24) (.tmp 26)), none⟩, ⟨(some 28), (.mv (.tmp 1)), none⟩, ⟨(some 29), (.ar .mul (.tmp 28) (.const (.int .i64 16))), none⟩, ⟨(some 30), (.ar .add (.tmp 27) (.tmp 29)), none⟩, ⟨(some 31), (.mv (.tmp 2)), none⟩, ⟨(some 32), (.ar .add (.tmp 30) (.tmp 31)), none⟩, ⟨(some 6), (.mv (.tmp 32)), none⟩]) .ret)))⟩ := by kernel_rfl

/-- allotment/allotmentref1.Class -/
theorem tr32 : trF Try.prog pures Try.f32 = some
  ⟨18, [(.t 2), (.t 3)],
    (.seq (.reg [⟨(some 2), (.mv (.const (.int .i64 0))), none⟩, ⟨(some 3), (.mv (.const (.bool false))), none⟩])
    (.seq (.seq
    (.reg [⟨(some 5), (.mv (.tmp 0)), none⟩, ⟨(some 6), (.cmp .lss (.tmp 5) (.const (.int .i64 1))), none⟩, ⟨(some 7), (.mv (.tmp 6)), none⟩, ⟨(some 8), (.mv (.tmp 0)), (some (7, false))⟩, ⟨(some 9), (.cmp .gtr (.tmp 8) (.const (.int .i64 32))), (some (7, false))⟩, ⟨(some 10), (.pick (.tmp 7) (.const (.bool true)) (.tmp 9)), none⟩])
    (.cond (.tmp 10)
    (.seq (.reg [⟨(some 2), (.mv (.const (.int .i64 0))), none⟩, ⟨(some 3), (.mv (.const (.bool false))), none⟩]) .ret) .skip))
    (.seq (.reg [⟨(some 4), (.mv (.const (.int .i64 0))), none⟩])
    (.seq (.block 0
    (.loop (.seq
    (.seq (.reg [⟨(some 11), (.mv (.tmp 4)), none⟩, ⟨(some 12), (.pcall 36 [(.tmp 11)]), none⟩, ⟨(some 13), (.mv (.tmp 0)), none⟩, ⟨(some 14), (.cmp .lss (.tmp 12) (.tmp 13)), none⟩])
    (.cond (.tmp 14) .skip (.exit 0)))
    (.block 1
    (.reg [⟨(some 15), (.mv (.tmp 4)), none⟩, ⟨(some 16), (.ar .add (.tmp 15) (.const (.int .i64 1))), none⟩, ⟨(some 4), (.mv (.tmp 16)), none⟩])))))
    (.seq (.reg [⟨(some 17), (.mv (.tmp 4)), none⟩, ⟨(some 2), (.mv (.tmp 17)), none⟩, ⟨(some 3), (.mv (.const (.bool true))), none⟩]) .ret)))))⟩ := by kernel_rfl

/-- allotment/allotmentref1.Run -/
theorem tr33 : trF Try.prog pures Try.f33 = some
  ⟨14, [(.t 2), (.t 3)],
    (.seq (.reg [⟨(some 2), (.mv (.const (.int .i64 0))), none⟩, ⟨(some 3), (.mv (.const (.bool false))), none⟩])
    (.seq (.seq
    (.reg [⟨(some 4), (.mv (.tmp 0)), none⟩, ⟨(some 5), (.cmp .lss (.tmp 4) (.const (.int .i64 33))), none⟩, ⟨(some 6), (.mv (.tmp 5)), none⟩, ⟨(some 7), (.mv (.tmp 0)), (some (6, false))⟩, ⟨(some 8), (.cmp .gtr (.tmp 7) (.const (.int .i64 512))), (some (6, false))⟩, ⟨(some 9), (.pick (.tmp 6) (.const (.bool true)) (.tmp 8)), none⟩])
    (.cond (.tmp 9)
    (.seq (.reg [⟨(some 2), (.mv (.const (.int .i64 0))), none⟩, ⟨(some 3), (.mv (.const (.bool false))), none⟩]) .ret) .skip))
    (.seq (.reg [⟨(some 10), (.mv (.tmp 0)), none⟩, ⟨(some 11), (.ar .add (.tmp 10) (.const (.int .i64 64))), none⟩, ⟨(some 12), (.ar .sub (.tmp 11) (.const (.int .i64 1))), none⟩, ⟨(some 13), (.dv .quo (.tmp 12) (.const (.int .i64 64))), none⟩, ⟨(some 2), (.mv (.tmp 13)), none⟩, ⟨(some 3), (.mv (.const (.bool true))), none⟩]) .ret)))⟩ := by kernel_rfl

/-- allotment/allotmentref1.Length -/
theorem tr34 : trF Try.prog pures Try.f34 = some
  ⟨23, [(.t 2), (.t 3)],
    (.seq (.reg [⟨(some 2), (.mv (.const (.int .i64 0))), none⟩, ⟨(some 3), (.mv (.const (.bool false))), none⟩])
    (.seq (.reg [⟨(some 8), (.mv (.tmp 0)), none⟩, ⟨(some 9), (.pcall 32 [(.tmp 8)]), none⟩, ⟨(some 7), (.mv (.tmp 9)), none⟩, ⟨(some 10), (.ext 0 (.tmp 7)), none⟩, ⟨(some 11), (.ext 1 (.tmp 7)), none⟩, ⟨(some 4), (.mv (.tmp 10)), none⟩, ⟨(some 5), (.mv (.tmp 11)), none⟩])
    (.seq (.seq
    (.reg [⟨(some 12), (.mv (.tmp 5)), none⟩])
    (.cond (.tmp 12)
    (.seq (.reg [⟨(some 13), (.mv (.tmp 4)), none⟩, ⟨(some 14), (.pcall 36 [(.tmp 13)]), none⟩, ⟨(some 2), (.mv (.tmp 14)), none⟩, ⟨(some 3), (.mv (.const (.bool true))), none⟩]) .ret) .skip))
    (.seq (.reg [⟨(some 16), (.mv (.tmp 0)), none⟩, ⟨(some 17), (.pcall 33 [(.tmp 16)]), none⟩, ⟨(some 15), (.mv (.tmp 17)), none⟩, ⟨(some 18), (.ext 0 (.tmp 15)), none⟩, ⟨(some 19), (.ext 1 (.tmp 15)), none⟩, ⟨(some 6), (.mv (.tmp 18)), none⟩, ⟨(some 5), (.mv (.tmp 19)), none⟩])
    (.seq (.reg [⟨(some 20), (.mv (.tmp 6)), none⟩, ⟨(some 21), (.ar .mul (.tmp 20) (.const (.int .i64 64))), none⟩, ⟨(some 22), (.mv (.tmp 5)), none⟩, ⟨(some 2), (.mv (.tmp 21)), none⟩, ⟨(some 3), (.mv (.tmp 22)), none⟩]) .ret)))))⟩ := by kernel_rfl

/-- allotment/allotmentref1.Split -/
theorem tr35 : trF Try.prog pures Try.f35 = some
  ⟨25, [(.t 4), (.t 5), (.t 6)],
    (.seq (.reg [⟨(some 2), (.box 23 (.tmp 0)), none⟩, ⟨(some 4), (.mv (.const (.int .i64 0))), none⟩, ⟨(some 5), (.mv (.const (.int .i64 0))), none⟩, ⟨(some 6), (.mv (.const (.bool false))), none⟩])
    (.seq (.seq
    (.reg [⟨(some 7), (.ldn 3 (.tmp 2)), none⟩, ⟨(some 8), (.pcall 24 [(.tmp 7)]), none⟩, ⟨(some 9), (.nt (.tmp 8)), none⟩, ⟨(some 10), (.mv (.tmp 9)), none⟩, ⟨(some 11), (.mv (.tmp 1)), (some (10, false))⟩, ⟨(some 12), (.cmp .lss (.tmp 11) (.const (.int .i64 0))), (some (10, false))⟩, ⟨(some 13), (.pick (.tmp 10) (.const (.bool true)) (.tmp 12)), none⟩, ⟨(some 14), (.mv (.tmp 13)), none⟩, ⟨(some 15), (.mv (.tmp 1)), (some (14, false))⟩, ⟨(some 16), (.fad 0 (.tmp 2)), (some (14, false))⟩, ⟨(some 17), (.ld1 (.tmp 16)), (some (14, false))⟩, ⟨(some 18), (.ar .mul (.tmp 17) (.const (.int .i64 64))), (some (14, false))⟩, ⟨(some 19), (.cmp .geq (.tmp 15) (.tmp 18)), (some (14, false))⟩, ⟨(some 20), (.pick (.tmp 14) (.const (.bool true)) (.tmp 19)), none⟩])
    (.cond (.tmp 20)
    (.seq (.reg [⟨(some 4), (.mv (.const (.int .i64 0))), none⟩, ⟨(some 5), (.mv (.const (.int .i64 0))), none⟩, ⟨(some 6), (.mv (.const (.bool false))), none⟩]) .ret) .skip))
    (.seq (.reg [⟨(some 21), (.mv (.tmp 1)), none⟩, ⟨(some 22), (.dv .quo (.tmp 21) (.const (.int .i64 64))), none⟩, ⟨(some 23), (.mv (.tmp 1)), none⟩, ⟨(some 24), (.dv .rem (.tmp 23) (.const (.int .i64 64))), none⟩, ⟨(some 4), (.mv (.tmp 22)), none⟩, ⟨(some 5), (.mv (.tmp 24)), none⟩, ⟨(some 6), (.mv (.const (.bool true))), none⟩]) .ret)))⟩ := by kernel_rfl

/-- allotment/allotmentref1.Size -/
theorem tr36 : trF Try.prog pures Try.f36 = some
  ⟨12, [(.t 2)],
    (.seq (.reg [⟨(some 2), (.mv (.const (.int .i64 0))), none⟩])
    (.seq (.seq
    (.reg [⟨(some 3), (.mv (.tmp 0)), none⟩, ⟨(some 4), (.cmp .lss (.tmp 3) (.const (.int .i64 0))), none⟩, ⟨(some 5), (.mv (.tmp 4)), none⟩, ⟨(some 6), (.mv (.tmp 0)), (some (5, false))⟩, ⟨(some 7), (.cmp .geq (.tmp 6) (.const (.int .i64 4))), (some (5, false))⟩, ⟨(some 8), (.pick (.tmp 5) (.const (.bool true)) (.tmp 7)), none⟩])
    (.cond (.tmp 8)
    (.seq (.reg [⟨(some 2), (.mv (.const (.int .i64 0))), none⟩]) .ret) .skip))
    (.seq (.reg [⟨(some 9), (.mv (.tmp 0)), none⟩, ⟨(some 10), (.cv .u64 (.tmp 9)), none⟩, ⟨(some 11), (.sh .shl (.const (.int .i64 4)) (.tmp 10)), none⟩, ⟨(some 2), (.mv (.tmp 11)), none⟩]) .ret)))⟩ := by kernel_rfl

/-- allotment/allotmentref1.Slots -/
theorem tr37 : trF Try.prog pures Try.f37 = some
  ⟨12, [(.t 2)],
    (.seq (.reg [⟨(some 2), (.mv (.const (.int .i64 0))), none⟩])
    (.seq (.seq
    (.reg [⟨(some 3), (.mv (.tmp 0)), none⟩, ⟨(some 4), (.cmp .lss (.tmp 3) (.const (.int .i64 0))), none⟩, ⟨(some 5), (.mv (.tmp 4)), none⟩, ⟨(some 6), (.mv (.tmp 0)), (some (5, false))⟩, ⟨(some 7), (.cmp .geq (.tmp 6) (.const (.int .i64 4))), (some (5, false))⟩, ⟨(some 8), (.pick (.tmp 5) (.const (.bool true)) (.tmp 7)), none⟩])
    (.cond (.tmp 8)
    (.seq (.reg [⟨(some 2), (.mv (.const (.int .i64 0))), none⟩]) .ret) .skip))
    (.seq (.reg [⟨(some 9), (.mv (.tmp 0)), none⟩, ⟨(some 10), (.cv .u64 (.tmp 9)), none⟩, ⟨(some 11), (.sh .shr (.const (.int .i64 16)) (.tmp 10)), none⟩, ⟨(some 2), (.mv (.tmp 11)), none⟩]) .ret)))⟩ := by kernel_rfl

/-- allotment/allotmentref1.Total -/
theorem tr38 : trF Try.prog pures Try.f38 = some
  ⟨21, [(.t 2)],
    (.seq (.reg [⟨(some 1), (.box 23 (.tmp 0)), none⟩, ⟨(some 2), (.mv (.const (.int .i64 0))), none⟩])
    (.seq (.seq
    (.reg [⟨(some 3), (.ldn 3 (.tmp 1)), none⟩, ⟨(some 4), (.pcall 24 [(.tmp 3)]), none⟩, ⟨(some 5), (.nt (.tmp 4)), none⟩])
    (.cond (.tmp 5)
    (.seq (.reg [⟨(some 2), (.mv (.const (.int .i64 0))), none⟩]) .ret) .skip))
    (.seq (.reg [⟨(some 6), (.fad 1 (.tmp 1)), none⟩, ⟨(some 7), (.ld1 (.tmp 6)), none⟩, ⟨(some 8), (.fad 0 (.tmp 1)), none⟩, ⟨(some 9), (.ld1 (.tmp 8)), none⟩, ⟨(some 10), (.ar .add (.tmp 7) (.tmp 9)), none⟩, ⟨(some 11), (.fad 0 (.tmp 1)), none⟩, ⟨(some 12), (.ld1 (.tmp 11)), none⟩, ⟨(some 13), (.ar .mul (.const (.int .i64 16)) (.tmp 12)), none⟩, ⟨(some 14), (.ar .add (.tmp 10) (.tmp 13)), none⟩, ⟨(some 15), (.fad 1 (.tmp 1)), none⟩, ⟨(some 16), (.ld1 (.tmp 15)), none⟩, ⟨(some 17), (.fad 2 (.tmp 1)), none⟩, ⟨(some 18), (.ld1 (.tmp 17)), none⟩, ⟨(some 19), (.ar .mul (.tmp 16) (.tmp 18)), none⟩, ⟨(some 20), (.ar .add (.tmp 14) (.tmp 19)), none⟩, ⟨(some 2), (.mv (.tmp 20)), none⟩]) .ret)))⟩ := by kernel_rfl

/-- allotment/allotmentref1.Page -/
theorem tr39 : trF Try.prog pures Try.f39 = some
  ⟨22, [(.t 4)],
    (.seq (.reg [⟨(some 2), (.box 23 (.tmp 0)), none⟩, ⟨(some 4), (.mv (.const (.int .i64 0))), none⟩])
    (.seq (.seq
    (.reg [⟨(some 5), (.ldn 3 (.tmp 2)), none⟩, ⟨(some 6), (.pcall 24 [(.tmp 5)]), none⟩, ⟨(some 7), (.nt (.tmp 6)), none⟩, ⟨(some 8), (.mv (.tmp 7)), none⟩, ⟨(some 9), (.mv (.tmp 1)), (some (8, false))⟩, ⟨(some 10), (.cmp .lss (.tmp 9) (.const (.int .i64 0))), (some (8, false))⟩, ⟨(some 11), (.pick (.tmp 8) (.const (.bool true)) (.tmp 10)), none⟩, ⟨(some 12), (.mv (.tmp 11)), none⟩, ⟨(some 13), (.mv (.tmp 1)), (some (12, false))⟩, ⟨(some 14), (.fad 0 (.tmp 2)), (some (12, false))⟩, ⟨(some 15), (.ld1 (.tmp 14)), (some (12, false))⟩, ⟨(some 16), (.cmp .geq (.tmp 13) (.tmp 15)), (some (12, false))⟩, ⟨(some 17), (.pick (.tmp 12) (.const (.bool true)) (.tmp 16)), none⟩])
    (.cond (.tmp 17)
    (.seq (.reg [⟨(some 4), (.mv (.const (.int .i64 (-1)))), none⟩]) .ret) .skip))
    (.seq (.reg [⟨(some 18), (.fad 1 (.tmp 2)), none⟩, ⟨(some 19), (.ld1 (.tmp 18)), none⟩, ⟨(some 20), (.mv (.tmp 1)), none⟩, ⟨(some 21), (.ar .add (.tmp 19) (.tmp 20)), none⟩, ⟨(some 4), (.mv (.tmp 21)), none⟩]) .ret)))⟩ := by kernel_rfl

/-- allotment/allotmentref1.Slot -/
theorem tr40 : trF Try.prog pures Try.f40 = some
  ⟨29, [(.t 6)],
    (.seq (.reg [⟨(some 3), (.box 23 (.tmp 0)), none⟩, ⟨(some 6), (.mv (.const (.int .i64 0))), none⟩])
    (.seq (.seq
    (.reg [⟨(some 7), (.ldn 3 (.tmp 3)), none⟩, ⟨(some 8), (.mv (.tmp 1)), none⟩, ⟨(some 9), (.pcall 39 [(.tmp 7), (.tmp 8)]), none⟩, ⟨(some 10), (.cmp .lss (.tmp 9) (.const (.int .i64 0))), none⟩, ⟨(some 11), (.mv (.tmp 10)), none⟩, ⟨(some 12), (.mv (.tmp 2)), (some (11, false))⟩, ⟨(some 13), (.cmp .lss (.tmp 12) (.const (.int .i64 0))), (some (11, false))⟩, ⟨(some 14), (.pick (.tmp 11) (.const (.bool true)) (.tmp 13)), none⟩, ⟨(some 15), (.mv (.tmp 14)), none⟩, ⟨(some 16), (.mv (.tmp 2)), (some (15, false))⟩, ⟨(some 17), (.cmp .geq (.tmp 16) (.const (.int .i64 16))), (some (15, false))⟩, ⟨(some 18), (.pick (.tmp 15) (.const (.bool true)) (.tmp 17)), none⟩])
    (.cond (.tmp 18)
    (.seq (.reg [⟨(some 6), (.mv (.const (.int .i64 (-1)))), none⟩]) .ret) .skip))
    (.seq (.reg [⟨(some 19), (.fad 1 (.tmp 3)), none⟩, ⟨(some 20), (.ld1 (.tmp 19)), none⟩, ⟨(some 21), (.fad 0 (.tmp 3)), none⟩, ⟨(some 22), (.ld1 (.tmp 21)), none⟩, ⟨(some 23), (.ar .add (.tmp 20) (.tmp 22)), none⟩, ⟨(some 24), (.mv (.tmp 1)), none⟩, ⟨(some 25), (.ar .mul (.const (.int .i64 16)) (.tmp 24)), none⟩, ⟨(some 26), (.ar .add (.tmp 23) (.tmp 25)), none⟩, ⟨(some 27), (.mv (.tmp 2)), none⟩, ⟨(some 28), (.ar .add (.tmp 26) (.tmp 27)), none⟩, ⟨(some 6), (.mv (.tmp 28)), none⟩]) .ret)))⟩ := by kernel_rfl

/-- allotment/allotmentref1.Mag -/
theorem tr41 : trF Try.prog pures Try.f41 = some
  ⟨37, [(.t 6)],
    (.seq (.reg [⟨(some 3), (.box 23 (.tmp 0)), none⟩, ⟨(some 6), (.mv (.const (.int .i64 0))), none⟩])
    (.seq (.seq
    (.reg [⟨(some 7), (.ldn 3 (.tmp 3)), none⟩, ⟨(some 8), (.mv (.tmp 1)), none⟩, ⟨(some 9), (.pcall 42 [(.tmp 7), (.tmp 8)]), none⟩, ⟨(some 10), (.cmp .lss (.tmp 9) (.const (.int .i64 0))), none⟩, ⟨(some 11), (.mv (.tmp 10)), none⟩, ⟨(some 12), (.mv (.tmp 2)), (some (11, false))⟩, ⟨(some 13), (.cmp .lss (.tmp 12) (.const (.int .i64 0))), (some (11, false))⟩, ⟨(some 14), (.pick (.tmp 11) (.const (.bool true)) (.tmp 13)), none⟩, ⟨(some 15), (.mv (.tmp 14)), none⟩, ⟨(some 16), (.mv (.tmp 2)), (some (15, false))⟩, ⟨(some 17), (.fad 2 (.tmp 3)), (some (15, false))⟩, ⟨(some 18), (.ld1 (.tmp 17)), (some (15, false))⟩, ⟨(some 19), (.cmp .geq (.tmp 16) (.tmp 18)), (some (15, false))⟩, ⟨(some 20), (.pick (.tmp 15) (.const (.bool true)) (.tmp 19)), none⟩])
    (.cond (.tmp 20)
    (.seq (.reg [⟨(some 6), (.mv (.const (.int .i64 (-1)))), none⟩]) .ret) .skip))
    (.seq (.reg [⟨(some 21), (.fad 1 (.tmp 3)), none⟩, ⟨(some 22), (.ld1 (.tmp 21)), none⟩, ⟨(some 23), (.fad 0 (.tmp 3)), none⟩, ⟨(some 24), (.ld1 (.tmp 23)), none⟩, ⟨(some 25), (.ar .add (.tmp 22) (.tmp 24)), none⟩, ⟨(some 26), (.fad 0 (.tmp 3)), none⟩, ⟨(some 27), (.ld1 (.tmp 26)), none⟩, ⟨(some 28), (.ar .mul (.const (.int .i64 16)) (.tmp 27)), none⟩, ⟨(some 29), (.ar .add (.tmp 25) (.tmp 28)), none⟩, ⟨(some 30), (.fad 2 (.tmp 3)), none⟩, ⟨(some 31), (.ld1 (.tmp 30)), none⟩, ⟨(some 32), (.mv (.tmp 1)), none⟩, ⟨(some 33), (.ar .mul (.tmp 31) (.tmp 32)), none⟩, ⟨(some 34), (.ar .add (.tmp 29) (.tmp 33)), none⟩, ⟨(some 35), (.mv (.tmp 2)), none⟩, ⟨(some 36), (.ar .add (.tmp 34) (.tmp 35)), none⟩, ⟨(some 6), (.mv (.tmp 36)), none⟩]) .ret)))⟩ := by kernel_rfl

/-- allotment/allotmentref1.Status -/
theorem tr42 : trF Try.prog pures Try.f42 = some
  ⟨19, [(.t 4)],
    (.seq (.reg [⟨(some 2), (.box 23 (.tmp 0)), none⟩, ⟨(some 4), (.mv (.const (.int .i64 0))), none⟩])
    (.seq (.seq
    (.reg [⟨(some 5), (.ldn 3 (.tmp 2)), none⟩, ⟨(some 6), (.pcall 24 [(.tmp 5)]), none⟩, ⟨(some 7), (.nt (.tmp 6)), none⟩, ⟨(some 8), (.mv (.tmp 7)), none⟩, ⟨(some 9), (.mv (.tmp 1)), (some (8, false))⟩, ⟨(some 10), (.cmp .lss (.tmp 9) (.const (.int .i64 0))), (some (8, false))⟩, ⟨(some 11), (.pick (.tmp 8) (.const (.bool true)) (.tmp 10)), none⟩, ⟨(some 12), (.mv (.tmp 11)), none⟩, ⟨(some 13), (.mv (.tmp 1)), (some (12, false))⟩, ⟨(some 14), (.fad 1 (.tmp 2)), (some (12, false))⟩, ⟨(some 15), (.ld1 (.tmp 14)), (some (12, false))⟩, ⟨(some 16), (.cmp .geq (.tmp 13) (.tmp 15)), (some (12, false))⟩, ⟨(some 17), (.pick (.tmp 12) (.const (.bool true)) (.tmp 16)), none⟩])
    (.cond (.tmp 17)
    (.seq (.reg [⟨(some 4), (.mv (.const (.int .i64 (-1)))), none⟩]) .ret) .skip))
    (.seq (.reg [⟨(some 18), (.mv (.tmp 1)), none⟩, ⟨(some 4), (.mv (.tmp 18)), none⟩]) .ret)))⟩ := by kernel_rfl

/-- allotment/allotmentref20.Steps -/
theorem tr43 : trF Try.prog pures Try.f43 = some
  ⟨14, [(.t 2)],
    (.seq (.reg [⟨(some 1), (.box 23 (.tmp 0)), none⟩, ⟨(some 2), (.mv (.const (.int .i64 0))), none⟩])
    (.seq (.seq
    (.reg [⟨(some 3), (.ldn 3 (.tmp 1)), none⟩, ⟨(some 4), (.pcall 24 [(.tmp 3)]), none⟩, ⟨(some 5), (.nt (.tmp 4)), none⟩])
    (.cond (.tmp 5)
    (.seq (.reg [⟨(some 2), (.mv (.const (.int .i64 0))), none⟩]) .ret) .skip))
    (.seq (.reg [⟨(some 6), (.fad 0 (.tmp 1)), none⟩, ⟨(some 7), (.ld1 (.tmp 6)), none⟩, ⟨(some 8), (.ar .mul (.const (.int .i64 110)) (.tmp 7)), none⟩, ⟨(some 9), (.fad 2 (.tmp 1)), none⟩, ⟨(some 10), (.ld1 (.tmp 9)), none⟩, ⟨(some 11), (.ar .mul (.const (.int .i64 4)) (.tmp 10)), none⟩, ⟨(some 12), (.ar .add (.tmp 8) (.tmp 11)), none⟩, ⟨(some 13), (.ar .add (.tmp 12) (.const (.int .i64 60))), none⟩, ⟨(some 2), (.mv (.tmp 13)), none⟩]) .ret)))⟩ := by kernel_rfl

/-- allotment/allotmentref20.Leak -/
theorem tr44 : trF Try.prog pures Try.f44 = some
  ⟨10, [(.t 2)],
    (.seq (.reg [⟨(some 1), (.box 23 (.tmp 0)), none⟩, ⟨(some 2), (.mv (.const (.int .i64 0))), none⟩])
    (.seq (.seq
    (.reg [⟨(some 3), (.ldn 3 (.tmp 1)), none⟩, ⟨(some 4), (.pcall 24 [(.tmp 3)]), none⟩, ⟨(some 5), (.nt (.tmp 4)), none⟩])
    (.cond (.tmp 5)
    (.seq (.reg [⟨(some 2), (.mv (.const (.int .i64 0))), none⟩]) .ret) .skip))
    (.seq (.reg [⟨(some 6), (.fad 2 (.tmp 1)), none⟩, ⟨(some 7), (.ld1 (.tmp 6)), none⟩, ⟨(some 8), (.ar .mul (.const (.int .i64 32)) (.tmp 7)), none⟩, ⟨(some 9), (.ar .add (.tmp 8) (.const (.int .i64 1024))), none⟩, ⟨(some 2), (.mv (.tmp 9)), none⟩]) .ret)))⟩ := by kernel_rfl

/-- allotment/cap.Of -/
theorem tr45 : trF Try.prog pures Try.f45 = some
  ⟨26, [(.t 4)],
    (.seq (.reg [⟨(some 2), (.box 23 (.tmp 0)), none⟩, ⟨(some 3), (.box 45 (.tmp 1)), none⟩, ⟨(some 4), (.mv (.const (.int .i64 0))), none⟩])
    (.seq (.seq
    (.reg [⟨(some 8), (.ldn 3 (.tmp 2)), none⟩, ⟨(some 9), (.ldn 3 (.tmp 3)), none⟩, ⟨(some 10), (.pcall 49 [(.tmp 8), (.const (.int .i64 (-1))), (.tmp 9)]), none⟩, ⟨(some 7), (.mv (.tmp 10)), none⟩, ⟨(some 11), (.ext 0 (.tmp 7)), none⟩, ⟨(some 12), (.ext 1 (.tmp 7)), none⟩, ⟨(some 5), (.mv (.tmp 11)), none⟩, ⟨(some 6), (.mv (.tmp 12)), none⟩])
    (.seq (.reg [⟨(some 13), (.mv (.tmp 6)), none⟩, ⟨(some 14), (.mv (.tmp 13)), none⟩, ⟨(some 15), (.fad 0 (.tmp 3)), (some (14, false))⟩, ⟨(some 16), (.ld1 (.tmp 15)), (some (14, false))⟩, ⟨(some 17), (.cmp .lss (.tmp 16) (.const (.int .i64 1))), (some (14, false))⟩, ⟨(some 18), (.pick (.tmp 14) (.const (.bool true)) (.tmp 17)), none⟩, ⟨(some 19), (.mv (.tmp 18)), none⟩, ⟨(some 20), (.fad 0 (.tmp 3)), (some (19, false))⟩, ⟨(some 21), (.ld1 (.tmp 20)), (some (19, false))⟩, ⟨(some 22), (.cmp .gtr (.tmp 21) (.const (.int .i64 4))), (some (19, false))⟩, ⟨(some 23), (.pick (.tmp 19) (.const (.bool true)) (.tmp 22)), none⟩])
    (.cond (.tmp 23)
    (.seq (.reg [⟨(some 4), (.mv (.const (.int .i64 0))), none⟩]) .ret) .skip)))
    (.seq (.reg [⟨(some 24), (.ldn 3 (.tmp 2)), none⟩, ⟨(some 25), (.pcall 14 [(.tmp 24)]), none⟩, ⟨(some 4), (.mv (.tmp 25)), none⟩]) .ret)))⟩ := by kernel_rfl

/-- allotment/allotmentref20.Of -/
theorem tr46 : trF Try.prog pures Try.f46 = some
  ⟨26, [(.t 4)],
    (.seq (.reg [⟨(some 2), (.box 23 (.tmp 0)), none⟩, ⟨(some 3), (.box 45 (.tmp 1)), none⟩, ⟨(some 4), (.mv (.const (.int .i64 0))), none⟩])
    (.seq (.reg [⟨(some 8), (.ldn 3 (.tmp 2)), none⟩, ⟨(some 9), (.ldn 3 (.tmp 3)), none⟩, ⟨(some 10), (.pcall 47 [(.tmp 8), (.const (.int .i64 (-1))), (.tmp 9)]), none⟩, ⟨(some 7), (.mv (.tmp 10)), none⟩, ⟨(some 11), (.ext 0 (.tmp 7)), none⟩, ⟨(some 12), (.ext 1 (.tmp 7)), none⟩, ⟨(some 5), (.mv (.tmp 11)), none⟩, ⟨(some 6), (.mv (.tmp 12)), none⟩])
    (.seq (.seq
    (.reg [⟨(some 13), (.mv (.tmp 6)), none⟩, ⟨(some 14), (.mv (.tmp 13)), none⟩, ⟨(some 15), (.fad 0 (.tmp 3)), (some (14, false))⟩, ⟨(some 16), (.ld1 (.tmp 15)), (some (14, false))⟩, ⟨(some 17), (.cmp .lss (.tmp 16) (.const (.int .i64 1))), (some (14, false))⟩, ⟨(some 18), (.pick (.tmp 14) (.const (.bool true)) (.tmp 17)), none⟩, ⟨(some 19), (.mv (.tmp 18)), none⟩, ⟨(some 20), (.fad 0 (.tmp 3)), (some (19, false))⟩, ⟨(some 21), (.ld1 (.tmp 20)), (some (19, false))⟩, ⟨(some 22), (.cmp .gtr (.tmp 21) (.const (.int .i64 4))), (some (19, false))⟩, ⟨(some 23), (.pick (.tmp 19) (.const (.bool true)) (.tmp 22)), none⟩])
    (.cond (.tmp 23)
    (.seq (.reg [⟨(some 4), (.mv (.const (.int .i64 0))), none⟩]) .ret) .skip))
    (.seq (.reg [⟨(some 24), (.ldn 3 (.tmp 2)), none⟩, ⟨(some 25), (.pcall 43 [(.tmp 24)]), none⟩, ⟨(some 4), (.mv (.tmp 25)), none⟩]) .ret))))⟩ := by kernel_rfl

/-- allotment/allotmentref20.AtOnce -/
theorem tr47 : trF Try.prog pures Try.f47 = some
  ⟨85, [(.t 6), (.t 7)],
    (.seq (.reg [⟨(some 3), (.box 23 (.tmp 0)), none⟩, ⟨(some 5), (.box 45 (.tmp 2)), none⟩, ⟨(some 6), (.mv (.const (.int .i64 0))), none⟩, ⟨(some 7), (.mv (.const (.bool false))), none⟩])
    (.seq (.reg [⟨(some 17), (.fad 2 (.tmp 5)), none⟩, ⟨(some 18), (.ld1 (.tmp 17)), none⟩, ⟨(some 19), (.pcall 34 [(.tmp 18)]), none⟩, ⟨(some 16), (.mv (.tmp 19)), none⟩, ⟨(some 20), (.ext 0 (.tmp 16)), none⟩, ⟨(some 21), (.ext 1 (.tmp 16)), none⟩, ⟨(some 8), (.mv (.tmp 20)), none⟩, ⟨(some 9), (.mv (.tmp 21)), none⟩])
    (.seq (.reg [⟨(some 23), (.ldn 3 (.tmp 3)), none⟩, ⟨(some 24), (.fad 1 (.tmp 5)), none⟩, ⟨(some 25), (.ld1 (.tmp 24)), none⟩, ⟨(some 26), (.pcall 35 [(.tmp 23), (.tmp 25)]), none⟩, ⟨(some 22), (.mv (.tmp 26)), none⟩, ⟨(some 27), (.ext 0 (.tmp 22)), none⟩, ⟨(some 28), (.ext 1 (.tmp 22)), none⟩, ⟨(some 29), (.ext 2 (.tmp 22)), none⟩, ⟨(some 10), (.mv (.tmp 27)), none⟩, ⟨(some 11), (.mv (.tmp 28)), none⟩, ⟨(some 12), (.mv (.tmp 29)), none⟩])
    (.seq (.reg [⟨(some 31), (.fad 2 (.tmp 5)), none⟩, ⟨(some 32), (.ld1 (.tmp 31)), none⟩, ⟨(some 33), (.pcall 33 [(.tmp 32)]), none⟩, ⟨(some 30), (.mv (.tmp 33)), none⟩, ⟨(some 34), (.ext 0 (.tmp 30)), none⟩, ⟨(some 35), (.ext 1 (.tmp 30)), none⟩, ⟨(some 13), (.mv (.tmp 34)), none⟩, ⟨(some 14), (.mv (.tmp 35)), none⟩])
    (.seq (.reg [⟨(some 15), (.mv (.const (.bool false))), none⟩])
    (.seq (.seq
    (.reg [⟨(some 36), (.fad 0 (.tmp 5)), none⟩, ⟨(some 37), (.ld1 (.tmp 36)), none⟩])
    (.block 0
    (.seq (.reg [⟨(some 39), (.cmp .eql (.tmp 37) (.const (.int .i64 1))), none⟩, ⟨(some 38), (.mv (.tmp 39)), none⟩])
    (.cond (.tmp 38)
    (.reg [⟨(some 40), (.mv (.tmp 9)), none⟩, ⟨(some 41), (.nt (.tmp 40)), none⟩, ⟨(some 15), (.mv (.tmp 41)), none⟩])
    (.seq (.reg [⟨(some 43), (.cmp .eql (.tmp 37) (.const (.int .i64 2))), none⟩, ⟨(some 42), (.mv (.tmp 43)), none⟩])
    (.cond (.tmp 42)
    (.reg [⟨(some 44), (.mv (.tmp 12)), none⟩, ⟨(some 45), (.nt (.tmp 44)), none⟩, ⟨(some 15), (.mv (.tmp 45)), none⟩])
    (.seq (.reg [⟨(some 47), (.cmp .eql (.tmp 37) (.const (.int .i64 3))), none⟩, ⟨(some 46), (.mv (.tmp 47)), none⟩])
    (.cond (.tmp 46)
    (.reg [⟨(some 48), (.mv (.tmp 9)), none⟩, ⟨(some 49), (.nt (.tmp 48)), none⟩, ⟨(some 50), (.mv (.tmp 49)), none⟩, ⟨(some 51), (.mv (.tmp 12)), (some (50, false))⟩, ⟨(some 52), (.nt (.tmp 51)), (some (50, false))⟩, ⟨(some 53), (.pick (.tmp 50) (.const (.bool true)) (.tmp 52)), none⟩, ⟨(some 15), (.mv (.tmp 53)), none⟩])
    (.seq (.reg [⟨(some 55), (.cmp .eql (.tmp 37) (.const (.int .i64 4))), none⟩, ⟨(some 54), (.mv (.tmp 55)), none⟩])
    (.cond (.tmp 54)
    (.reg [⟨(some 56), (.ldn 3 (.tmp 3)), none⟩, ⟨(some 57), (.fad 1 (.tmp 5)), none⟩, ⟨(some 58), (.ld1 (.tmp 57)), none⟩, ⟨(some 59), (.pcall 42 [(.tmp 56), (.tmp 58)]), none⟩, ⟨(some 60), (.cmp .lss (.tmp 59) (.const (.int .i64 0))), none⟩, ⟨(some 61), (.mv (.tmp 60)), none⟩, ⟨(some 62), (.fad 1 (.tmp 5)), (some (61, false))⟩, ⟨(some 63), (.ld1 (.tmp 62)), (some (61, false))⟩, ⟨(some 64), (.mv (.tmp 1)), (some (61, false))⟩, ⟨(some 65), (.cmp .eql (.tmp 63) (.tmp 64)), (some (61, false))⟩, ⟨(some 66), (.pick (.tmp 61) (.const (.bool true)) (.tmp 65)), none⟩, ⟨(some 15), (.mv (.tmp 66)), none⟩]) .skip))))))))))
    (.seq (.seq
    (.reg [⟨(some 67), (.mv (.tmp 15)), none⟩])
    (.cond (.tmp 67)
    (.seq (.reg [⟨(some 6), (.mv (.const (.int .i64 1))), none⟩, ⟨(some 7), (.mv (.const (.bool true))), none⟩]) .ret) .skip))
    (.seq (.seq
    (.reg [⟨(some 68), (.fad 0 (.tmp 5)), none⟩, ⟨(some 69), (.ld1 (.tmp 68)), none⟩, ⟨(some 70), (.cmp .eql (.tmp 69) (.const (.int .i64 1))), none⟩, ⟨(some 71), (.mv (.tmp 70)), none⟩, ⟨(some 72), (.fad 0 (.tmp 5)), (some (71, false))⟩, ⟨(some 73), (.ld1 (.tmp 72)), (some (71, false))⟩, ⟨(some 74), (.cmp .eql (.tmp 73) (.const (.int .i64 3))), (some (71, false))⟩, ⟨(some 75), (.pick (.tmp 71) (.const (.bool true)) (.tmp 74)), none⟩, ⟨(some 76), (.mv (.tmp 75)), none⟩, ⟨(some 77), (.mv (.tmp 14)), (some (76, true))⟩, ⟨(some 78), (.pick (.tmp 76) (.tmp 77) (.const (.bool false))), none⟩, ⟨(some 79), (.mv (.tmp 78)), none⟩, ⟨(some 80), (.mv (.tmp 13)), (some (79, true))⟩, ⟨(some 81), (.fad 0 (.tmp 3)), (some (79, true))⟩, ⟨(some 82), (.ld1 (.tmp 81)), (some (79, true))⟩, ⟨(some 83), (.cmp .gtr (.tmp 80) (.tmp 82)), (some (79, true))⟩, ⟨(some 84), (.pick (.tmp 79) (.tmp 83) (.const (.bool false))), none⟩])
    (.cond (.tmp 84)
    (.seq (.reg [⟨(some 6), (.mv (.const (.int .i64 3))), none⟩, ⟨(some 7), (.mv (.const (.bool true))), none⟩]) .ret) .skip))
    (.seq (.reg [⟨(some 6), (.mv (.const (.int .i64 0))), none⟩, ⟨(some 7), (.mv (.const (.bool false))), none⟩]) .ret)))))))))⟩ := by kernel_rfl

/-- allotment/plan.within -/
theorem tr48 : trF Try.prog pures Try.f48 = some
  ⟨15, [(.t 6)],
    (.seq (.reg [⟨(some 6), (.mv (.const (.bool false))), none⟩])
    (.seq (.reg [⟨(some 7), (.mv (.tmp 0)), none⟩, ⟨(some 8), (.mv (.tmp 1)), none⟩, ⟨(some 9), (.cmp .geq (.tmp 7) (.tmp 8)), none⟩, ⟨(some 10), (.mv (.tmp 9)), none⟩, ⟨(some 11), (.mv (.tmp 0)), (some (10, true))⟩, ⟨(some 12), (.mv (.tmp 2)), (some (10, true))⟩, ⟨(some 13), (.cmp .leq (.tmp 11) (.tmp 12)), (some (10, true))⟩, ⟨(some 14), (.pick (.tmp 10) (.tmp 13) (.const (.bool false))), none⟩, ⟨(some 6), (.mv (.tmp 14)), none⟩]) .ret))⟩ := by kernel_rfl

/-- allotment/cap.AtOnce -/
theorem tr49 : trF Try.prog pures Try.f49 = some
  ⟨95, [(.t 6), (.t 7)],
    (.seq (.reg [⟨(some 3), (.box 23 (.tmp 0)), none⟩, ⟨(some 5), (.box 45 (.tmp 2)), none⟩, ⟨(some 6), (.mv (.const (.int .i64 0))), none⟩, ⟨(some 7), (.mv (.const (.bool false))), none⟩])
    (.seq (.reg [⟨(some 19), (.fad 2 (.tmp 5)), none⟩, ⟨(some 20), (.ld1 (.tmp 19)), none⟩, ⟨(some 21), (.pcall 22 [(.tmp 20)]), none⟩, ⟨(some 18), (.mv (.tmp 21)), none⟩, ⟨(some 22), (.ext 0 (.tmp 18)), none⟩, ⟨(some 23), (.ext 1 (.tmp 18)), none⟩, ⟨(some 8), (.mv (.tmp 22)), none⟩, ⟨(some 9), (.mv (.tmp 23)), none⟩])
    (.seq (.reg [⟨(some 25), (.ldn 3 (.tmp 3)), none⟩, ⟨(some 26), (.fad 1 (.tmp 5)), none⟩, ⟨(some 27), (.ld1 (.tmp 26)), none⟩, ⟨(some 28), (.pcall 23 [(.tmp 25), (.tmp 27)]), none⟩, ⟨(some 24), (.mv (.tmp 28)), none⟩, ⟨(some 29), (.ext 0 (.tmp 24)), none⟩, ⟨(some 30), (.ext 1 (.tmp 24)), none⟩, ⟨(some 31), (.ext 2 (.tmp 24)), none⟩, ⟨(some 10), (.mv (.tmp 29)), none⟩, ⟨(some 11), (.mv (.tmp 30)), none⟩, ⟨(some 12), (.mv (.tmp 31)), none⟩])
    (.seq (.reg [⟨(some 32), (.fad 0 (.tmp 5)), none⟩, ⟨(some 33), (.ld1 (.tmp 32)), none⟩, ⟨(some 34), (.cmp .eql (.tmp 33) (.const (.int .i64 1))), none⟩, ⟨(some 35), (.mv (.tmp 34)), none⟩, ⟨(some 36), (.fad 0 (.tmp 5)), (some (35, false))⟩, ⟨(some 37), (.ld1 (.tmp 36)), (some (35, false))⟩, ⟨(some 38), (.cmp .eql (.tmp 37) (.const (.int .i64 3))), (some (35, false))⟩, ⟨(some 39), (.pick (.tmp 35) (.const (.bool true)) (.tmp 38)), none⟩, ⟨(some 13), (.mv (.tmp 39)), none⟩])
    (.seq (.reg [⟨(some 40), (.fad 0 (.tmp 5)), none⟩, ⟨(some 41), (.ld1 (.tmp 40)), none⟩, ⟨(some 42), (.cmp .eql (.tmp 41) (.const (.int .i64 2))), none⟩, ⟨(some 43), (.mv (.tmp 42)), none⟩, ⟨(some 44), (.fad 0 (.tmp 5)), (some (43, false))⟩, ⟨(some 45), (.ld1 (.tmp 44)), (some (43, false))⟩, ⟨(some 46), (.cmp .eql (.tmp 45) (.const (.int .i64 3))), (some (43, false))⟩, ⟨(some 47), (.pick (.tmp 43) (.const (.bool true)) (.tmp 46)), none⟩, ⟨(some 14), (.mv (.tmp 47)), none⟩])
    (.seq (.reg [⟨(some 48), (.fad 0 (.tmp 5)), none⟩, ⟨(some 49), (.ld1 (.tmp 48)), none⟩, ⟨(some 50), (.cmp .eql (.tmp 49) (.const (.int .i64 4))), none⟩, ⟨(some 51), (.mv (.tmp 50)), none⟩, ⟨(some 52), (.ldn 3 (.tmp 3)), (some (51, true))⟩, ⟨(some 53), (.fad 1 (.tmp 5)), (some (51, true))⟩, ⟨(some 54), (.ld1 (.tmp 53)), (some (51, true))⟩, ⟨(some 55), (.pcall 28 [(.tmp 52), (.tmp 54)]), (some (51, true))⟩, ⟨(some 56), (.cmp .lss (.tmp 55) (.const (.int .i64 0))), (some (51, true))⟩, ⟨(some 57), (.mv (.tmp 56)), (some (51, true))⟩, ⟨(some 58), (.fad 1 (.tmp 5)), (some (57, false))⟩, ⟨(some 59), (.ld1 (.tmp 58)), (some (57, false))⟩, ⟨(some 60), (.mv (.tmp 1)), (some (57, false))⟩, ⟨(some 61), (.cmp .eql (.tmp 59) (.tmp 60)), (some (57, false))⟩, ⟨(some 62), (.pick (.tmp 57) (.const (.bool true)) (.tmp 61)), (some (51, true))⟩, ⟨(some 63), (.pick (.tmp 51) (.tmp 62) (.const (.bool false))), none⟩, ⟨(some 15), (.mv (.tmp 63)), none⟩])
    (.seq (.seq
    (.reg [⟨(some 64), (.mv (.tmp 15)), none⟩, ⟨(some 65), (.mv (.tmp 64)), none⟩, ⟨(some 66), (.mv (.tmp 13)), (some (65, false))⟩, ⟨(some 67), (.mv (.tmp 66)), (some (65, false))⟩, ⟨(some 68), (.mv (.tmp 9)), (some (67, true))⟩, ⟨(some 69), (.nt (.tmp 68)), (some (67, true))⟩, ⟨(some 70), (.pick (.tmp 67) (.tmp 69) (.const (.bool false))), (some (65, false))⟩, ⟨(some 71), (.pick (.tmp 65) (.const (.bool true)) (.tmp 70)), none⟩, ⟨(some 72), (.mv (.tmp 71)), none⟩, ⟨(some 73), (.mv (.tmp 14)), (some (72, false))⟩, ⟨(some 74), (.mv (.tmp 73)), (some (72, false))⟩, ⟨(some 75), (.mv (.tmp 12)), (some (74, true))⟩, ⟨(some 76), (.nt (.tmp 75)), (some (74, true))⟩, ⟨(some 77), (.pick (.tmp 74) (.tmp 76) (.const (.bool false))), (some (72, false))⟩, ⟨(some 78), (.pick (.tmp 72) (.const (.bool true)) (.tmp 77)), none⟩])
    (.cond (.tmp 78)
    (.seq (.reg [⟨(some 6), (.mv (.const (.int .i64 1))), none⟩, ⟨(some 7), (.mv (.const (.bool true))), none⟩]) .ret) .skip))
    (.seq (.seq
    (.reg [⟨(some 80), (.fad 2 (.tmp 5)), none⟩, ⟨(some 81), (.ld1 (.tmp 80)), none⟩, ⟨(some 82), (.pcall 21 [(.tmp 81)]), none⟩, ⟨(some 79), (.mv (.tmp 82)), none⟩, ⟨(some 83), (.ext 0 (.tmp 79)), none⟩, ⟨(some 84), (.ext 1 (.tmp 79)), none⟩, ⟨(some 16), (.mv (.tmp 83)), none⟩, ⟨(some 17), (.mv (.tmp 84)), none⟩])
    (.seq (.reg [⟨(some 85), (.mv (.tmp 13)), none⟩, ⟨(some 86), (.mv (.tmp 85)), none⟩, ⟨(some 87), (.mv (.tmp 17)), (some (86, true))⟩, ⟨(some 88), (.pick (.tmp 86) (.tmp 87) (.const (.bool false))), none⟩, ⟨(some 89), (.mv (.tmp 88)), none⟩, ⟨(some 90), (.mv (.tmp 16)), (some (89, true))⟩, ⟨(some 91), (.fad 0 (.tmp 3)), (some (89, true))⟩, ⟨(some 92), (.ld1 (.tmp 91)), (some (89, true))⟩, ⟨(some 93), (.cmp .gtr (.tmp 90) (.tmp 92)), (some (89, true))⟩, ⟨(some 94), (.pick (.tmp 89) (.tmp 93) (.const (.bool false))), none⟩])
    (.cond (.tmp 94)
    (.seq (.reg [⟨(some 6), (.mv (.const (.int .i64 3))), none⟩, ⟨(some 7), (.mv (.const (.bool true))), none⟩]) .ret) .skip)))
    (.seq (.reg [⟨(some 6), (.mv (.const (.int .i64 0))), none⟩, ⟨(some 7), (.mv (.const (.bool false))), none⟩]) .ret)))))))))⟩ := by kernel_rfl

end Go.Proofs.Ytiffdfjknibmpaa
