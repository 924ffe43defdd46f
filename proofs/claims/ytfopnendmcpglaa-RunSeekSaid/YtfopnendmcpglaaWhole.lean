/-
  What the row asks of the whole program. Conditions: none.
-/
import Derived.Test.YtfopnendmcpglaaRowV
set_option linter.unusedVariables false
set_option linter.unusedSimpArgs false
namespace Go.Proofs.Ytfopnendmcpglaa
open Go Go.Ev Go.ChangeShapes Go.WideShapes Go.ChangeAt Go.RowKit

theorem no_later : Try.prog.laysLater = false := by kernel_rfl
theorem no_reflect : Try.prog.bearsReflect = false := by kernel_rfl
theorem no_doors : Try.prog.doorRows = [] := by kernel_rfl
def headCodes : List Nat := [104, 97, 114, 110, 101, 115, 115, 32, 48, 51, 52, 54, 99, 100, 54, 54, 50, 56, 56, 48, 97, 99, 51, 100, 101, 102, 49, 48, 98, 56, 97, 49, 98, 102, 50, 57, 53, 51, 98, 97, 57, 49, 97, 99, 50, 57, 101, 97, 52, 97, 54, 101, 51, 98, 100, 56, 53, 54, 52, 57, 51, 48, 52, 55, 98, 57, 49, 49, 53, 55, 98, 52, 32, 99, 117, 116, 32, 97, 116, 32, 97, 108, 108, 111, 116, 109, 101, 110, 116, 47, 97, 108, 108, 111, 116, 109, 101, 110, 116, 108, 97, 119, 49, 52, 46, 82, 117, 110, 83, 111, 117, 110, 100, 32, 97, 108, 108, 111, 116, 109, 101, 110, 116, 47, 97, 108, 108, 111, 116, 109, 101, 110, 116, 108, 97, 119, 49, 54, 46, 71, 105, 118, 101, 65, 108, 108, 32, 97, 108, 108, 111, 116, 109, 101, 110, 116, 47, 97, 108, 108, 111, 116, 109, 101, 110, 116, 108, 97, 119, 49, 56, 46, 65, 100, 111, 112, 116, 67, 104, 97, 105, 110, 32, 97, 108, 108, 111, 116, 109, 101, 110, 116, 47, 97, 108, 108, 111, 116, 109, 101, 110, 116, 108, 97, 119, 49, 56, 46, 65, 100, 111, 112, 116, 79, 116, 104, 101, 114, 115, 32, 97, 108, 108, 111, 116, 109, 101, 110, 116, 47, 97, 108, 108, 111, 116, 109, 101, 110, 116, 108, 97, 119, 49, 51, 46, 83, 101, 101, 107, 69, 109, 112, 116, 105, 101, 115, 32, 97, 108, 108, 111, 116, 109, 101, 110, 116, 47, 97, 108, 108, 111, 116, 109, 101, 110, 116, 108, 97, 119, 49, 51, 46, 83, 101, 101, 107, 77, 97, 110, 121, 32, 97, 108, 108, 111, 116, 109, 101, 110, 116, 47, 97, 108, 108, 111, 116, 109, 101, 110, 116, 108, 97, 119, 49, 51, 46, 83, 101, 101, 107, 79, 119, 110, 32, 97, 108, 108, 111, 116, 109, 101, 110, 116, 47, 97, 108, 108, 111, 116, 109, 101, 110, 116, 108, 97, 119, 49, 51, 46, 83, 101, 101, 107, 70, 105, 114, 115, 116, 32, 97, 108, 108, 111, 116, 109, 101, 110, 116, 47, 97, 108, 108, 111, 116, 109, 101, 110, 116, 108, 97, 119, 49, 52, 46, 82, 117, 110, 83, 101, 101, 107]
set_option maxRecDepth 100000 in
theorem head_text : Try.prog.initOrder = String.ofList (headCodes.map Char.ofNat) := by kernel_rfl
theorem head_toList : Try.prog.initOrder.toList = headCodes.map Char.ofNat := by rw [head_text, String.toList_ofList]
def sumCodes : List Nat := (headCodes.drop 8).take 64
set_option maxRecDepth 100000 in
theorem head_is : ∃ rest, wordsSigns Try.prog.initOrder.toList = "harness".toList :: sumCodes.map Char.ofNat :: "cut".toList :: rest :=
  head_words (m := 77) (by rw [head_toList]; kernel_rfl) (by kernel_rfl) (by kernel_rfl) (by kernel_rfl)
theorem whole_enter : Try.prog.mayEnter = true := by
  obtain ⟨r, h⟩ := head_is
  exact (enter_of h (by kernel_rfl) no_later no_reflect no_doors).1
theorem whole_lifts : Try.prog.liftsFinal = false := by
  obtain ⟨r, h⟩ := head_is
  exact (enter_of h (by kernel_rfl) no_later no_reflect no_doors).2.1
theorem whole_make : Try.prog.make = some .cut := by
  obtain ⟨r, h⟩ := head_is
  exact (enter_of h (by kernel_rfl) no_later no_reflect no_doors).2.2
theorem whole_stops : Try.prog.stopsHeard = true := by kernel_rfl

end Go.Proofs.Ytfopnendmcpglaa
