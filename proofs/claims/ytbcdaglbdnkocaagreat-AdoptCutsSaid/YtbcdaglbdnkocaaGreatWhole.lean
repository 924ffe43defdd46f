/-
 What the row asks of the whole program. Conditions: none.
-/
import Derived.Test.YtbcdaglbdnkocaaGreatRowA
set_option linter.unusedVariables false
set_option linter.unusedSimpArgs false
namespace Go.Proofs.YtbcdaglbdnkocaaGreat
open Go Go.Ev Go.ChangeShapes Go.WideShapes Go.ChangeAt Go.RowKit

theorem no_later:Tryz.prog.laysLater=false:=by kernel_rfl
theorem no_reflect:Tryz.prog.bearsReflect=false:=by kernel_rfl
theorem no_doors:Tryz.prog.doorRows = []:=by kernel_rfl
def headCodes:List Nat:=[104,97,114,110,101,115,115,32,55,48,99,54,102,97,101,100,53,57,57,52,102,55,53,98,57,54,48,54,55,54,51,55,53,98,53,102,50,102,52,99,98,57,102,97,100,51,100,98,98,99,54,50,49,54,98,102,98,49,53,55,52,57,55,54,102,48,56,49,102,49,97,49,32,99,117,116,32,97,116,32,97,108,108,111,116,109,101,110,116,47,97,108,108,111,116,109,101,110,116,108,97,119,49,56,46,65,100,111,112,116,67,117,116,115]
set_option maxRecDepth 100000 in
theorem head_text:Tryz.prog.initOrder=String.ofList (headCodes.map Char.ofNat):=by kernel_rfl
theorem head_toList:Tryz.prog.initOrder.toList=headCodes.map Char.ofNat:=by rw[head_text,String.toList_ofList]
def sumCodes:List Nat:=(headCodes.drop 8).take 64
set_option maxRecDepth 100000 in
theorem head_is:∃ rest,wordsSigns Tryz.prog.initOrder.toList = "harness".toList :: sumCodes.map Char.ofNat :: "cut".toList :: rest:=
 head_words (m:=77) (by rw[head_toList];kernel_rfl) (by kernel_rfl) (by kernel_rfl) (by kernel_rfl)
theorem whole_enter:Tryz.prog.mayEnter=true:=by
 obtain⟨r,h⟩:=head_is
 exact(enter_of h (by kernel_rfl) no_later no_reflect no_doors).1
theorem whole_lifts:Tryz.prog.liftsFinal=false:=by
 obtain⟨r,h⟩:=head_is
 exact(enter_of h (by kernel_rfl) no_later no_reflect no_doors).2.1
theorem whole_make:Tryz.prog.make=some .cut:=by
 obtain⟨r,h⟩:=head_is
 exact(enter_of h (by kernel_rfl) no_later no_reflect no_doors).2.2
theorem whole_stops:Tryz.prog.stopsHeard=true:=by kernel_rfl

end Go.Proofs.YtbcdaglbdnkocaaGreat
