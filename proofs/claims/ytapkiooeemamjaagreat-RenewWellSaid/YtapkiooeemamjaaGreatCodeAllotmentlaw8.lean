/-
 The compact code of functions of this seat, as translated from the model: each translation holds by reckoning. Conditions: none.
-/
import Derived.Test.YtapkiooeemamjaaGreatCode
set_option maxRecDepth 100000
namespace Go.Proofs.YtapkiooeemamjaaGreat
open Go Go.Ev

/-- allotment/allotmentlaw8.Fair -/
theorem tr5 : trF Tryz.prog pures Tryz.f5 = some
 ⟨14, [(.t 4)],
  (.seq (.reg [⟨(some 2), (.box 23 (.tmp 0)), none⟩, ⟨(some 4), (.mv (.const (.bool false))), none⟩])
  (.seq (.reg [⟨(some 5), (.ldn 3 (.tmp 2)), none⟩, ⟨(some 6), (.pcall 27 [(.tmp 5)]), none⟩, ⟨(some 7), (.mv (.tmp 6)), none⟩, ⟨(some 8), (.mv (.tmp 1)), (some (7, true))⟩, ⟨(some 9), (.len (.tmp 8)), (some (7, true))⟩, ⟨(some 10), (.ldn 3 (.tmp 2)), (some (7, true))⟩, ⟨(some 11), (.pcall 24 [(.tmp 10)]), (some (7, true))⟩, ⟨(some 12), (.cmp .eql (.tmp 9) (.tmp 11)), (some (7, true))⟩, ⟨(some 13), (.pick (.tmp 7) (.tmp 12) (.const (.bool false))), none⟩, ⟨(some 4), (.mv (.tmp 13)), none⟩]) .ret))⟩ := by kernel_rfl

end Go.Proofs.YtapkiooeemamjaaGreat
