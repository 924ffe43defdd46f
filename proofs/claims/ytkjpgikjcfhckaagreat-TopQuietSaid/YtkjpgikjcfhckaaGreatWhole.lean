/-
 What the row asks of the whole program. Conditions: none.
-/
import Derived.Test.YtkjpgikjcfhckaaGreatRowA
set_option linter.unusedVariables false
set_option linter.unusedSimpArgs false
namespace Go.Proofs.YtkjpgikjcfhckaaGreat
open Go Go.Ev Go.ChangeShapes Go.WideShapes Go.ChangeAt Go.RowKit

theorem no_later:Tryz.prog.laysLater=false:=by kernel_rfl
theorem no_reflect:Tryz.prog.bearsReflect=false:=by kernel_rfl
theorem no_doors:Tryz.prog.doorRows = []:=by kernel_rfl
def headCodes:List Nat:=[104,97,114,110,101,115,115,32,98,51,52,50,52,55,56,55,100,100,51,97,57,54,56,99,100,57,101,49,50,57,102,54,56,57,52,101,57,52,53,99,50,53,98,99,56,50,102,55,51,50,57,101,48,57,51,51,53,50,57,102,50,54,51,102,49,53,99,98,52,97,51,101,32,99,117,116,32,97,116,32,97,108,108,111,116,109,101,110,116,47,97,108,108,111,116,109,101,110,116,116,111,112,46,84,111,112,76,101,97,107,32,97,108,108,111,116,109,101,110,116,47,97,108,108,111,116,109,101,110,116,116,111,112,46,84,111,112,66,111,117,110,100,32,97,108,108,111,116,109,101,110,116,47,97,108,108,111,116,109,101,110,116,116,111,112,46,84,111,112,78,111,77,101,109,111,114,121,32,97,108,108,111,116,109,101,110,116,47,97,108,108,111,116,109,101,110,116,116,111,112,46,84,111,112,81,117,105,101,116,32,97,108,108,111,116,109,101,110,116,47,97,108,108,111,116,109,101,110,116,116,111,112,46,84,111,112,70,105,108,108,85,112,32,97,108,108,111,116,109,101,110,116,47,97,108,108,111,116,109,101,110,116,116,111,112,46,84,111,112,66,105,97,115,32,97,108,108,111,116,109,101,110,116,47,97,108,108,111,116,109,101,110,116,116,111,112,46,84,111,112,72,101,108,100]
set_option maxRecDepth 100000 in
theorem head_text:Tryz.prog.initOrder=String.ofList (headCodes.map Char.ofNat):=by kernel_rfl
theorem head_toList:Tryz.prog.initOrder.toList=headCodes.map Char.ofNat:=by rw[head_text,String.toList_ofList]
def sumCodes:List Nat:=(headCodes.drop 8).take 64
set_option maxRecDepth 100000 in
theorem head_is:∃ rest,wordsSigns Tryz.prog.initOrder.toList = "harness".toList :: sumCodes.map Char.ofNat :: "cut".toList :: rest:=
 head_words (m:=77) (by rw[head_toList];kernel_rfl) (by kernel_rfl) (by kernel_rfl) (by kernel_rfl)
theorem whole_enter:Tryz.prog.mayEnter=true:=by
 obtain⟨r,h⟩:=head_is
 exact(enter_of h (by kernel_rfl) no_later no_reflect no_doors).1
theorem whole_lifts:Tryz.prog.liftsFinal=false:=by
 obtain⟨r,h⟩:=head_is
 exact(enter_of h (by kernel_rfl) no_later no_reflect no_doors).2.1
theorem whole_make:Tryz.prog.make=some .cut:=by
 obtain⟨r,h⟩:=head_is
 exact(enter_of h (by kernel_rfl) no_later no_reflect no_doors).2.2
theorem whole_stops:Tryz.prog.stopsHeard=true:=by kernel_rfl

end Go.Proofs.YtkjpgikjcfhckaaGreat
