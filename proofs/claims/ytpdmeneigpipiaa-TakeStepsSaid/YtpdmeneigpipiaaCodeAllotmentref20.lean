/-
  The compact code of functions of this seat, as translated from the model: each translation holds by reckoning. Conditions: none.
-/
import Derived.Test.YtpdmeneigpipiaaCode
set_option maxRecDepth 100000
namespace Go.Proofs.Ytpdmeneigpipiaa
open Go Go.Ev

/-- allotment/allotmentref20.Steps -/
theorem tr25 : trF Try.prog pures Try.f25 = some
  ⟨14, [(.t 2)],
    (.seq (.reg [⟨(some 1), (.box 25 (.tmp 0)), none⟩, ⟨(some 2), (.mv (.const (.int .i64 0))), none⟩])
    (.seq (.seq
    (.reg [⟨(some 3), (.ldn 3 (.tmp 1)), none⟩, ⟨(some 4), (.pcall 44 [(.tmp 3)]), none⟩, ⟨(some 5), (.nt (.tmp 4)), none⟩])
    (.cond (.tmp 5)
    (.seq (.reg [⟨(some 2), (.mv (.const (.int .i64 0))), none⟩]) .ret) .skip))
    (.seq (.reg [⟨(some 6), (.fad 0 (.tmp 1)), none⟩, ⟨(some 7), (.ld1 (.tmp 6)), none⟩, ⟨(some 8), (.ar .mul (.const (.int .i64 110)) (.tmp 7)), none⟩, ⟨(some 9), (.fad 2 (.tmp 1)), none⟩, ⟨(some 10), (.ld1 (.tmp 9)), none⟩, ⟨(some 11), (.ar .mul (.const (.int .i64 4)) (.tmp 10)), none⟩, ⟨(some 12), (.ar .add (.tmp 8) (.tmp 11)), none⟩, ⟨(some 13), (.ar .add (.tmp 12) (.const (.int .i64 60))), none⟩, ⟨(some 2), (.mv (.tmp 13)), none⟩]) .ret)))⟩ := by kernel_rfl

end Go.Proofs.Ytpdmeneigpipiaa
