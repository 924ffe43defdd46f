/-
  What the row asks of the whole program. Conditions: none.
-/
import Derived.Test.YtpdmeneigpipiaaGreatRowV
set_option linter.unusedVariables false
set_option linter.unusedSimpArgs false
namespace Go.Proofs.YtpdmeneigpipiaaGreat
open Go Go.Ev Go.ChangeShapes Go.WideShapes Go.ChangeAt Go.RowKit

theorem no_later : Tryz.prog.laysLater = false := by kernel_rfl
theorem no_reflect : Tryz.prog.bearsReflect = false := by kernel_rfl
theorem no_doors : Tryz.prog.doorRows = [] := by kernel_rfl
def headCodes : List Nat := [104, 97, 114, 110, 101, 115, 115, 32, 99, 102, 57, 54, 99, 51, 98, 56, 53, 54, 98, 48, 101, 48, 56, 99, 98, 53, 54, 57, 50, 56, 98, 51, 55, 50, 48, 56, 51, 51, 54, 102, 100, 54, 102, 56, 52, 98, 50, 53, 51, 97, 53, 53, 53, 56, 50, 53, 98, 53, 52, 57, 54, 51, 99, 52, 54, 54, 101, 98, 100, 56, 53, 56, 32, 99, 117, 116, 32, 97, 116, 32, 97, 108, 108, 111, 116, 109, 101, 110, 116, 47, 97, 108, 108, 111, 116, 109, 101, 110, 116, 108, 97, 119, 49, 56, 46, 65, 100, 111, 112, 116, 67, 117, 116, 115, 32, 97, 108, 108, 111, 116, 109, 101, 110, 116, 47, 97, 108, 108, 111, 116, 109, 101, 110, 116, 108, 97, 119, 49, 51, 46, 83, 101, 101, 107, 80, 108, 97, 121, 115, 32, 97, 108, 108, 111, 116, 109, 101, 110, 116, 47, 97, 108, 108, 111, 116, 109, 101, 110, 116, 108, 97, 119, 49, 53, 46, 84, 97, 107, 101, 65, 112, 97, 114, 116, 32, 97, 108, 108, 111, 116, 109, 101, 110, 116, 47, 97, 108, 108, 111, 116, 109, 101, 110, 116, 108, 97, 119, 49, 53, 46, 84, 97, 107, 101, 77, 97, 110, 121, 32, 97, 108, 108, 111, 116, 109, 101, 110, 116, 47, 97, 108, 108, 111, 116, 109, 101, 110, 116, 108, 97, 119, 49, 53, 46, 84, 97, 107, 101, 85, 110, 100, 111, 101, 115, 32, 97, 108, 108, 111, 116, 109, 101, 110, 116, 47, 97, 108, 108, 111, 116, 109, 101, 110, 116, 108, 97, 119, 49, 54, 46, 71, 105, 118, 101, 84, 97, 107, 101, 115, 32, 97, 108, 108, 111, 116, 109, 101, 110, 116, 47, 97, 108, 108, 111, 116, 109, 101, 110, 116, 108, 97, 119, 49, 55, 46, 82, 101, 110, 101, 119, 75, 101, 101, 112, 115, 32, 97, 108, 108, 111, 116, 109, 101, 110, 116, 47, 97, 108, 108, 111, 116, 109, 101, 110, 116, 108, 97, 119, 49, 55, 46, 82, 101, 110, 101, 119, 87, 101, 108, 108, 32, 97, 108, 108, 111, 116, 109, 101, 110, 116, 47, 97, 108, 108, 111, 116, 109, 101, 110, 116, 108, 97, 119, 49, 55, 46, 82, 101, 110, 101, 119, 84, 119, 111, 32, 97, 108, 108, 111, 116, 109, 101, 110, 116, 47, 97, 108, 108, 111, 116, 109, 101, 110, 116, 108, 97, 119, 49, 55, 46, 82, 101, 110, 101, 119, 83, 101, 108, 102]
set_option maxRecDepth 100000 in
theorem head_text : Tryz.prog.initOrder = String.ofList (headCodes.map Char.ofNat) := by kernel_rfl
theorem head_toList : Tryz.prog.initOrder.toList = headCodes.map Char.ofNat := by rw [head_text, String.toList_ofList]
def sumCodes : List Nat := (headCodes.drop 8).take 64
set_option maxRecDepth 100000 in
theorem head_is : ∃ rest, wordsSigns Tryz.prog.initOrder.toList = "harness".toList :: sumCodes.map Char.ofNat :: "cut".toList :: rest :=
  head_words (m := 77) (by rw [head_toList]; kernel_rfl) (by kernel_rfl) (by kernel_rfl) (by kernel_rfl)
theorem whole_enter : Tryz.prog.mayEnter = true := by
  obtain ⟨r, h⟩ := head_is
  exact (enter_of h (by kernel_rfl) no_later no_reflect no_doors).1
theorem whole_lifts : Tryz.prog.liftsFinal = false := by
  obtain ⟨r, h⟩ := head_is
  exact (enter_of h (by kernel_rfl) no_later no_reflect no_doors).2.1
theorem whole_make : Tryz.prog.make = some .cut := by
  obtain ⟨r, h⟩ := head_is
  exact (enter_of h (by kernel_rfl) no_later no_reflect no_doors).2.2
theorem whole_stops : Tryz.prog.stopsHeard = true := by kernel_rfl

end Go.Proofs.YtpdmeneigpipiaaGreat
