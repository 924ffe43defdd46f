/-
  What the row asks of the whole program. Conditions: none.
-/
import Derived.Test.YtbehnodllajnjaaFrame
set_option linter.unusedVariables false
set_option linter.unusedSimpArgs false
namespace Go.Proofs.Ytbehnodllajnjaa
open Go Go.Ev Go.ChangeShapes Go.WideShapes Go.ChangeAt Go.RowKit

theorem no_later : Try.prog.laysLater = false := by kernel_rfl
theorem no_reflect : Try.prog.bearsReflect = false := by kernel_rfl
theorem no_doors : Try.prog.doorRows = [] := by kernel_rfl
def headCodes : List Nat := [104, 97, 114, 110, 101, 115, 115, 32, 55, 55, 49, 54, 56, 102, 57, 56, 51, 49, 53, 100, 51, 97, 52, 49, 53, 51, 102, 52, 56, 52, 97, 57, 55, 53, 52, 97, 102, 97, 50, 49, 97, 102, 49, 50, 57, 51, 100, 48, 99, 55, 100, 54, 100, 57, 100, 50, 100, 98, 51, 101, 49, 48, 48, 51, 56, 52, 98, 49, 52, 99, 50, 55, 32, 99, 117, 116, 32, 97, 116, 32, 97, 108, 108, 111, 116, 109, 101, 110, 116, 47, 97, 108, 108, 111, 116, 109, 101, 110, 116, 108, 97, 119, 49, 52, 46, 82, 117, 110, 82, 111, 119, 115, 32, 97, 108, 108, 111, 116, 109, 101, 110, 116, 47, 97, 108, 108, 111, 116, 109, 101, 110, 116, 108, 97, 119, 49, 52, 46, 82, 117, 110, 84, 119, 111, 32, 97, 108, 108, 111, 116, 109, 101, 110, 116, 47, 97, 108, 108, 111, 116, 109, 101, 110, 116, 108, 97, 119, 49, 54, 46, 71, 105, 118, 101, 84, 119, 111, 32, 97, 108, 108, 111, 116, 109, 101, 110, 116, 47, 97, 108, 108, 111, 116, 109, 101, 110, 116, 108, 97, 119, 49, 54, 46, 71, 105, 118, 101, 82, 101, 109, 111, 116, 101, 32, 97, 108, 108, 111, 116, 109, 101, 110, 116, 47, 97, 108, 108, 111, 116, 109, 101, 110, 116, 108, 97, 119, 49, 52, 46, 82, 117, 110, 83, 111, 117, 110, 100, 32, 97, 108, 108, 111, 116, 109, 101, 110, 116, 47, 97, 108, 108, 111, 116, 109, 101, 110, 116, 108, 97, 119, 49, 54, 46, 71, 105, 118, 101, 65, 108, 108, 32, 97, 108, 108, 111, 116, 109, 101, 110, 116, 47, 97, 108, 108, 111, 116, 109, 101, 110, 116, 108, 97, 119, 49, 52, 46, 82, 117, 110, 80, 108, 97, 121, 115, 32, 97, 108, 108, 111, 116, 109, 101, 110, 116, 47, 97, 108, 108, 111, 116, 109, 101, 110, 116, 108, 97, 119, 49, 54, 46, 71, 105, 118, 101, 80, 108, 97, 121, 115, 32, 97, 108, 108, 111, 116, 109, 101, 110, 116, 47, 97, 108, 108, 111, 116, 109, 101, 110, 116, 108, 97, 119, 49, 56, 46, 65, 100, 111, 112, 116, 84, 119, 111, 32, 97, 108, 108, 111, 116, 109, 101, 110, 116, 47, 97, 108, 108, 111, 116, 109, 101, 110, 116, 108, 97, 119, 49, 56, 46, 65, 100, 111, 112, 116, 83, 116, 97, 116, 101, 115, 32, 97, 108, 108, 111, 116, 109, 101, 110, 116, 47, 97, 108, 108, 111, 116, 109, 101, 110, 116, 108, 97, 119, 49, 56, 46, 65, 100, 111, 112, 116, 80, 108, 97, 121, 115, 32, 97, 108, 108, 111, 116, 109, 101, 110, 116, 47, 97, 108, 108, 111, 116, 109, 101, 110, 116, 108, 97, 119, 49, 51, 46, 83, 101, 101, 107, 79, 119, 110]
set_option maxRecDepth 100000 in
theorem head_text : Try.prog.initOrder = String.ofList (headCodes.map Char.ofNat) := by kernel_rfl
theorem head_toList : Try.prog.initOrder.toList = headCodes.map Char.ofNat := by rw [head_text, String.toList_ofList]
def sumCodes : List Nat := (headCodes.drop 8).take 64
set_option maxRecDepth 100000 in
theorem head_is : ∃ rest, wordsSigns Try.prog.initOrder.toList = "harness".toList :: sumCodes.map Char.ofNat :: "cut".toList :: rest :=
  head_words (m := 77) (by rw [head_toList]; kernel_rfl) (by kernel_rfl) (by kernel_rfl) (by kernel_rfl)
theorem whole_enter : Try.prog.mayEnter = true := by
  obtain ⟨r, h⟩ := head_is
  exact (enter_of h (by kernel_rfl) no_later no_reflect no_doors).1
theorem whole_lifts : Try.prog.liftsFinal = false := by
  obtain ⟨r, h⟩ := head_is
  exact (enter_of h (by kernel_rfl) no_later no_reflect no_doors).2.1
theorem whole_make : Try.prog.make = some .cut := by
  obtain ⟨r, h⟩ := head_is
  exact (enter_of h (by kernel_rfl) no_later no_reflect no_doors).2.2
theorem whole_stops : Try.prog.stopsHeard = true := by kernel_rfl

end Go.Proofs.Ytbehnodllajnjaa
