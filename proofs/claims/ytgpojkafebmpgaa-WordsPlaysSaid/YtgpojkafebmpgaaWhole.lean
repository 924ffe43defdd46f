/-
  What the row asks of the whole program. Conditions: none.
-/
import Derived.Test.YtgpojkafebmpgaaFrame
set_option linter.unusedVariables false
set_option linter.unusedSimpArgs false
namespace Go.Proofs.Ytgpojkafebmpgaa
open Go Go.Ev Go.ChangeShapes Go.WideShapes Go.ChangeAt Go.RowKit

theorem no_later : Try.prog.laysLater = false := by kernel_rfl
theorem no_reflect : Try.prog.bearsReflect = false := by kernel_rfl
theorem no_doors : Try.prog.doorRows = [] := by kernel_rfl
def headCodes : List Nat := [104, 97, 114, 110, 101, 115, 115, 32, 51, 48, 54, 48, 56, 54, 53, 102, 54, 97, 48, 49, 54, 99, 56, 102, 55, 48, 52, 50, 102, 100, 102, 100, 50, 50, 97, 100, 57, 57, 54, 100, 97, 51, 102, 98, 50, 48, 54, 55, 100, 49, 52, 55, 51, 51, 56, 48, 101, 51, 99, 97, 52, 99, 100, 102, 97, 49, 48, 51, 54, 57, 100, 54, 32, 99, 117, 116, 32, 97, 116, 32, 97, 108, 108, 111, 116, 109, 101, 110, 116, 47, 97, 108, 108, 111, 116, 109, 101, 110, 116, 108, 97, 119, 50, 46, 87, 111, 114, 100, 115, 80, 108, 97, 121, 115, 32, 97, 108, 108, 111, 116, 109, 101, 110, 116, 47, 97, 108, 108, 111, 116, 109, 101, 110, 116, 108, 97, 119, 49, 52, 46, 82, 117, 110, 82, 111, 119, 115, 32, 97, 108, 108, 111, 116, 109, 101, 110, 116, 47, 97, 108, 108, 111, 116, 109, 101, 110, 116, 108, 97, 119, 49, 52, 46, 82, 117, 110, 84, 119, 111, 32, 97, 108, 108, 111, 116, 109, 101, 110, 116, 47, 97, 108, 108, 111, 116, 109, 101, 110, 116, 108, 97, 119, 49, 54, 46, 71, 105, 118, 101, 84, 119, 111, 32, 97, 108, 108, 111, 116, 109, 101, 110, 116, 47, 97, 108, 108, 111, 116, 109, 101, 110, 116, 108, 97, 119, 49, 54, 46, 71, 105, 118, 101, 82, 101, 109, 111, 116, 101, 32, 97, 108, 108, 111, 116, 109, 101, 110, 116, 47, 97, 108, 108, 111, 116, 109, 101, 110, 116, 108, 97, 119, 49, 52, 46, 82, 117, 110, 83, 111, 117, 110, 100, 32, 97, 108, 108, 111, 116, 109, 101, 110, 116, 47, 97, 108, 108, 111, 116, 109, 101, 110, 116, 108, 97, 119, 49, 54, 46, 71, 105, 118, 101, 65, 108, 108, 32, 97, 108, 108, 111, 116, 109, 101, 110, 116, 47, 97, 108, 108, 111, 116, 109, 101, 110, 116, 108, 97, 119, 49, 52, 46, 82, 117, 110, 80, 108, 97, 121, 115, 32, 97, 108, 108, 111, 116, 109, 101, 110, 116, 47, 97, 108, 108, 111, 116, 109, 101, 110, 116, 108, 97, 119, 49, 54, 46, 71, 105, 118, 101, 80, 108, 97, 121, 115]
set_option maxRecDepth 100000 in
theorem head_text : Try.prog.initOrder = String.ofList (headCodes.map Char.ofNat) := by kernel_rfl
theorem head_toList : Try.prog.initOrder.toList = headCodes.map Char.ofNat := by rw [head_text, String.toList_ofList]
def sumCodes : List Nat := (headCodes.drop 8).take 64
set_option maxRecDepth 100000 in
theorem head_is : ∃ rest, wordsSigns Try.prog.initOrder.toList = "harness".toList :: sumCodes.map Char.ofNat :: "cut".toList :: rest :=
  head_words (m := 77) (by rw [head_toList]; kernel_rfl) (by kernel_rfl) (by kernel_rfl) (by kernel_rfl)
theorem whole_enter : Try.prog.mayEnter = true := by
  obtain ⟨r, h⟩ := head_is
  exact (enter_of h (by kernel_rfl) no_later no_reflect no_doors).1
theorem whole_lifts : Try.prog.liftsFinal = false := by
  obtain ⟨r, h⟩ := head_is
  exact (enter_of h (by kernel_rfl) no_later no_reflect no_doors).2.1
theorem whole_make : Try.prog.make = some .cut := by
  obtain ⟨r, h⟩ := head_is
  exact (enter_of h (by kernel_rfl) no_later no_reflect no_doors).2.2
theorem whole_stops : Try.prog.stopsHeard = true := by kernel_rfl

end Go.Proofs.Ytgpojkafebmpgaa
