/-
  The compact code of functions of this seat, as translated from the model: each translation holds by reckoning. Conditions: none.
-/
import Derived.Test.YtpdmeneigpipiaaGreatCode
set_option maxRecDepth 100000
namespace Go.Proofs.YtpdmeneigpipiaaGreat
open Go Go.Ev

/-- allotment/allotmentlaw8.Fair -/
theorem tr14 : trF Tryz.prog pures Tryz.f14 = some
  ⟨14, [(.t 4)],
    (.seq (.reg [⟨(some 2), (.box 23 (.tmp 0)), none⟩, ⟨(some 4), (.mv (.const (.bool false))), none⟩])
    (.seq (.reg [⟨(some 5), (.ldn 3 (.tmp 2)), none⟩, ⟨(some 6), (.pcall 79 [(.tmp 5)]), none⟩, ⟨(some 7), (.mv (.tmp 6)), none⟩, ⟨(some 8), (.mv (.tmp 1)), (some (7, true))⟩, ⟨(some 9), (.len (.tmp 8)), (some (7, true))⟩, ⟨(some 10), (.ldn 3 (.tmp 2)), (some (7, true))⟩, ⟨(some 11), (.pcall 57 [(.tmp 10)]), (some (7, true))⟩, ⟨(some 12), (.cmp .eql (.tmp 9) (.tmp 11)), (some (7, true))⟩, ⟨(some 13), (.pick (.tmp 7) (.tmp 12) (.const (.bool false))), none⟩, ⟨(some 4), (.mv (.tmp 13)), none⟩]) .ret))⟩ := by kernel_rfl

/-- allotment/allotmentlaw8.Steps -/
theorem tr38 : trF Tryz.prog pures Tryz.f38 = some
  ⟨30, [(.t 4)],
    (.seq (.reg [⟨(some 4), (.mv (.const (.bool false))), none⟩])
    (.seq (.draw (.take ⟨(some 5), (.mv (.tmp 0)), none⟩ (.take ⟨(some 7), (.mv (.tmp 1)), none⟩ (.take ⟨(some 8), (.nilck (.tmp 7)), none⟩ (.take ⟨(some 9), (.fad 1 (.tmp 8)), none⟩ (.take ⟨(some 10), (.ld1 (.tmp 9)), none⟩ (.alt false ⟨(some 6), (.call 39 [(.tmp 5)]), none⟩ (.take ⟨(some 11), (.cmp .eql (.tmp 6) (.tmp 10)), none⟩ (.take ⟨(some 12), (.mv (.tmp 11)), none⟩ (.take ⟨(some 13), (.mv (.tmp 0)), (some (12, true))⟩ (.take ⟨(some 15), (.mv (.tmp 1)), (some (12, true))⟩ (.take ⟨(some 16), (.nilck (.tmp 15)), (some (12, true))⟩ (.take ⟨(some 17), (.fad 2 (.tmp 16)), (some (12, true))⟩ (.take ⟨(some 18), (.ldn 6 (.tmp 17)), (some (12, true))⟩ (.alt false ⟨(some 14), (.call 144 [(.tmp 13)]), (some (12, true))⟩ (.take ⟨(some 19), (.aeq false [(0, false), (1, false), (2, false), (3, false), (4, false), (5, true)] (.tmp 14) (.tmp 18)), (some (12, true))⟩ (.take ⟨(some 20), (.pick (.tmp 12) (.tmp 19) (.const (.bool false))), none⟩ (.take ⟨(some 21), (.mv (.tmp 20)), none⟩ (.take ⟨(some 22), (.mv (.tmp 0)), (some (21, true))⟩ (.take ⟨(some 24), (.mv (.tmp 1)), (some (21, true))⟩ (.take ⟨(some 25), (.nilck (.tmp 24)), (some (21, true))⟩ (.take ⟨(some 26), (.fad 0 (.tmp 25)), (some (21, true))⟩ (.take ⟨(some 27), (.ld1 (.tmp 26)), (some (21, true))⟩ (.alt false ⟨(some 23), (.call 26 [(.tmp 22)]), (some (21, true))⟩ (.alt false ⟨(some 28), (.call 145 [(.tmp 23), (.tmp 27)]), (some (21, true))⟩ (.take ⟨(some 29), (.pick (.tmp 21) (.tmp 28) (.const (.bool false))), none⟩ (.take ⟨(some 4), (.mv (.tmp 29)), none⟩ .done)) .stop) .stop))))))))) .stop)))))))) .stop))))))) .ret))⟩ := by kernel_rfl

end Go.Proofs.YtpdmeneigpipiaaGreat
