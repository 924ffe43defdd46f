/-
  What the row asks of the whole program. Conditions: none.
-/
import Derived.Test.YtpdmeneigpipiaaRowV
set_option linter.unusedVariables false
set_option linter.unusedSimpArgs false
namespace Go.Proofs.Ytpdmeneigpipiaa
open Go Go.Ev Go.ChangeShapes Go.WideShapes Go.ChangeAt Go.RowKit

theorem no_later : Try.prog.laysLater = false := by kernel_rfl
theorem no_reflect : Try.prog.bearsReflect = false := by kernel_rfl
theorem no_doors : Try.prog.doorRows = [] := by kernel_rfl
def headCodes : List Nat := [104, 97, 114, 110, 101, 115, 115, 32, 50, 53, 50, 51, 98, 51, 53, 57, 48, 100, 48, 101, 48, 49, 57, 56, 54, 51, 100, 54, 49, 97, 52, 98, 53, 56, 48, 51, 50, 56, 98, 48, 55, 57, 55, 54, 48, 99, 99, 55, 49, 102, 98, 52, 101, 97, 56, 48, 54, 52, 57, 52, 56, 100, 101, 53, 53, 49, 56, 51, 52, 49, 99, 97, 32, 99, 117, 116, 32, 97, 116, 32, 97, 108, 108, 111, 116, 109, 101, 110, 116, 47, 97, 108, 108, 111, 116, 109, 101, 110, 116, 108, 97, 119, 49, 51, 46, 83, 101, 101, 107, 77, 97, 110, 121, 32, 97, 108, 108, 111, 116, 109, 101, 110, 116, 47, 97, 108, 108, 111, 116, 109, 101, 110, 116, 108, 97, 119, 49, 53, 46, 84, 97, 107, 101, 66, 108, 111, 99, 107, 115, 32, 97, 108, 108, 111, 116, 109, 101, 110, 116, 47, 97, 108, 108, 111, 116, 109, 101, 110, 116, 108, 97, 119, 49, 53, 46, 84, 97, 107, 101, 83, 116, 101, 112, 115]
set_option maxRecDepth 100000 in
theorem head_text : Try.prog.initOrder = String.ofList (headCodes.map Char.ofNat) := by kernel_rfl
theorem head_toList : Try.prog.initOrder.toList = headCodes.map Char.ofNat := by rw [head_text, String.toList_ofList]
def sumCodes : List Nat := (headCodes.drop 8).take 64
set_option maxRecDepth 100000 in
theorem head_is : ∃ rest, wordsSigns Try.prog.initOrder.toList = "harness".toList :: sumCodes.map Char.ofNat :: "cut".toList :: rest :=
  head_words (m := 77) (by rw [head_toList]; kernel_rfl) (by kernel_rfl) (by kernel_rfl) (by kernel_rfl)
theorem whole_enter : Try.prog.mayEnter = true := by
  obtain ⟨r, h⟩ := head_is
  exact (enter_of h (by kernel_rfl) no_later no_reflect no_doors).1
theorem whole_lifts : Try.prog.liftsFinal = false := by
  obtain ⟨r, h⟩ := head_is
  exact (enter_of h (by kernel_rfl) no_later no_reflect no_doors).2.1
theorem whole_make : Try.prog.make = some .cut := by
  obtain ⟨r, h⟩ := head_is
  exact (enter_of h (by kernel_rfl) no_later no_reflect no_doors).2.2
theorem whole_stops : Try.prog.stopsHeard = true := by kernel_rfl

end Go.Proofs.Ytpdmeneigpipiaa
