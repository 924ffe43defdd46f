/-
  What the row asks of the whole program. Conditions: none.
-/
import Derived.Test.YtlolfghimbcoaaaGreatRowV
set_option linter.unusedVariables false
set_option linter.unusedSimpArgs false
namespace Go.Proofs.YtlolfghimbcoaaaGreat
open Go Go.Ev Go.ChangeShapes Go.WideShapes Go.ChangeAt Go.RowKit

theorem no_later : Tryz.prog.laysLater = false := by kernel_rfl
theorem no_reflect : Tryz.prog.bearsReflect = false := by kernel_rfl
theorem no_doors : Tryz.prog.doorRows = [] := by kernel_rfl
def headCodes : List Nat := [104, 97, 114, 110, 101, 115, 115, 32, 101, 53, 52, 53, 102, 100, 56, 55, 99, 55, 100, 97, 50, 97, 48, 55, 99, 97, 99, 57, 52, 54, 53, 98, 53, 99, 49, 53, 49, 100, 52, 57, 51, 101, 99, 54, 98, 51, 53, 51, 55, 100, 53, 54, 102, 102, 48, 49, 54, 99, 55, 50, 54, 56, 53, 51, 49, 102, 102, 51, 97, 102, 98, 52, 32, 99, 117, 116, 32, 97, 116, 32, 97, 108, 108, 111, 116, 109, 101, 110, 116, 47, 97, 108, 108, 111, 116, 109, 101, 110, 116, 108, 97, 119, 49, 53, 46, 84, 97, 107, 101, 65, 112, 97, 114, 116]
set_option maxRecDepth 100000 in
theorem head_text : Tryz.prog.initOrder = String.ofList (headCodes.map Char.ofNat) := by kernel_rfl
theorem head_toList : Tryz.prog.initOrder.toList = headCodes.map Char.ofNat := by rw [head_text, String.toList_ofList]
def sumCodes : List Nat := (headCodes.drop 8).take 64
set_option maxRecDepth 100000 in
theorem head_is : ∃ rest, wordsSigns Tryz.prog.initOrder.toList = "harness".toList :: sumCodes.map Char.ofNat :: "cut".toList :: rest :=
  head_words (m := 77) (by rw [head_toList]; kernel_rfl) (by kernel_rfl) (by kernel_rfl) (by kernel_rfl)
theorem whole_enter : Tryz.prog.mayEnter = true := by
  obtain ⟨r, h⟩ := head_is
  exact (enter_of h (by kernel_rfl) no_later no_reflect no_doors).1
theorem whole_lifts : Tryz.prog.liftsFinal = false := by
  obtain ⟨r, h⟩ := head_is
  exact (enter_of h (by kernel_rfl) no_later no_reflect no_doors).2.1
theorem whole_make : Tryz.prog.make = some .cut := by
  obtain ⟨r, h⟩ := head_is
  exact (enter_of h (by kernel_rfl) no_later no_reflect no_doors).2.2
theorem whole_stops : Tryz.prog.stopsHeard = true := by kernel_rfl

end Go.Proofs.YtlolfghimbcoaaaGreat
