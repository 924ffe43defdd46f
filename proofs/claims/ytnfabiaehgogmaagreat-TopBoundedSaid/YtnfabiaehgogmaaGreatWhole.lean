/-
 What the row asks of the whole program. Conditions: none.
-/
import Derived.Test.YtnfabiaehgogmaaGreatRowA
set_option linter.unusedVariables false
set_option linter.unusedSimpArgs false
namespace Go.Proofs.YtnfabiaehgogmaaGreat
open Go Go.Ev Go.ChangeShapes Go.WideShapes Go.ChangeAt Go.RowKit

theorem no_later:Tryz.prog.laysLater=false:=by kernel_rfl
theorem no_reflect:Tryz.prog.bearsReflect=false:=by kernel_rfl
theorem no_doors:Tryz.prog.doorRows = []:=by kernel_rfl
def headCodes:List Nat:=[104,97,114,110,101,115,115,32,57,98,99,53,55,100,48,98,48,57,98,101,99,99,55,48,48,98,97,50,53,102,49,102,56,50,57,97,98,98,57,102,49,99,102,49,98,55,102,100,52,56,56,52,57,48,53,56,98,53,101,53,54,101,97,50,57,102,51,49,102,102,101,100,32,99,117,116,32,97,116,32,97,108,108,111,116,109,101,110,116,47,97,108,108,111,116,109,101,110,116,116,111,112,46,84,111,112,66,111,117,110,100,101,100]
set_option maxRecDepth 100000 in
theorem head_text:Tryz.prog.initOrder=String.ofList (headCodes.map Char.ofNat):=by kernel_rfl
theorem head_toList:Tryz.prog.initOrder.toList=headCodes.map Char.ofNat:=by rw[head_text,String.toList_ofList]
def sumCodes:List Nat:=(headCodes.drop 8).take 64
set_option maxRecDepth 100000 in
theorem head_is:∃ rest,wordsSigns Tryz.prog.initOrder.toList = "harness".toList :: sumCodes.map Char.ofNat :: "cut".toList :: rest:=
 head_words (m:=77) (by rw[head_toList];kernel_rfl) (by kernel_rfl) (by kernel_rfl) (by kernel_rfl)
theorem whole_enter:Tryz.prog.mayEnter=true:=by
 obtain⟨r,h⟩:=head_is
 exact(enter_of h (by kernel_rfl) no_later no_reflect no_doors).1
theorem whole_lifts:Tryz.prog.liftsFinal=false:=by
 obtain⟨r,h⟩:=head_is
 exact(enter_of h (by kernel_rfl) no_later no_reflect no_doors).2.1
theorem whole_make:Tryz.prog.make=some .cut:=by
 obtain⟨r,h⟩:=head_is
 exact(enter_of h (by kernel_rfl) no_later no_reflect no_doors).2.2
theorem whole_stops:Tryz.prog.stopsHeard=true:=by kernel_rfl

end Go.Proofs.YtnfabiaehgogmaaGreat
