/-
  The compact code of functions of this seat, as translated from the model: each translation holds by reckoning. Conditions: none.
-/
import Derived.Test.YtfdhilnaagpecaaGreatCode
set_option maxRecDepth 100000
namespace Go.Proofs.YtfdhilnaagpecaaGreat
open Go Go.Ev

/-- allotment/allotmentlaw2.Fill -/
theorem tr5 : trF Tryz.prog pures Tryz.f5 = some
  ⟨26, [(.t 2)],
    (.seq (.reg [⟨(some 2), (.mv (.const (.pointer none))), none⟩])
    (.seq (.reg [⟨(some 5), (.mv (.tmp 0)), none⟩, ⟨(some 6), (.len (.tmp 5)), none⟩, ⟨(some 7), (.call 24 [(.tmp 6)]), none⟩, ⟨(some 3), (.mv (.tmp 7)), none⟩])
    (.seq (.seq
    (.reg [⟨(some 4), (.mv (.const (.int .i64 0))), none⟩])
    (.block 0
    (.loop (.seq
    (.seq (.reg [⟨(some 8), (.mv (.tmp 4)), none⟩, ⟨(some 9), (.mv (.tmp 0)), none⟩, ⟨(some 10), (.len (.tmp 9)), none⟩, ⟨(some 11), (.cmp .lss (.tmp 8) (.tmp 10)), none⟩, ⟨(some 12), (.mv (.tmp 11)), none⟩, ⟨(some 13), (.mv (.tmp 3)), (some (12, true))⟩, ⟨(some 14), (.pnil true (.tmp 13)), (some (12, true))⟩, ⟨(some 15), (.pick (.tmp 12) (.tmp 14) (.const (.bool false))), none⟩])
    (.cond (.tmp 15) .skip (.exit 0)))
    (.seq (.block 1
    (.reg [⟨(some 18), (.mv (.tmp 3)), none⟩, ⟨(some 19), (.mv (.tmp 4)), none⟩, ⟨(some 20), (.mv (.tmp 0)), none⟩, ⟨(some 21), (.mv (.tmp 4)), none⟩, ⟨(some 22), (.iad 1 (.tmp 20) (.tmp 21)), none⟩, ⟨(some 23), (.ld1 (.tmp 22)), none⟩, ⟨(some 24), (.call 25 [(.tmp 18), (.tmp 19), (.tmp 23)]), none⟩]))
    (.reg [⟨(some 16), (.mv (.tmp 4)), none⟩, ⟨(some 17), (.ar .add (.tmp 16) (.const (.int .i64 1))), none⟩, ⟨(some 4), (.mv (.tmp 17)), none⟩]))))))
    (.seq (.reg [⟨(some 25), (.mv (.tmp 3)), none⟩, ⟨(some 2), (.mv (.tmp 25)), none⟩]) .ret))))⟩ := by kernel_rfl

end Go.Proofs.YtfdhilnaagpecaaGreat
