/-
  No cell of these rows narrows 'for every input' (looked for: loops, veiled, ifaces, maps, wideKeys, modest, calm, conditions, laid).
  DERIVED. THE GIVEN ROWS OF THIS SEAT. 10 by the template 'for every input the law returns true; each argument reads behind the call as it read before'; 0 by the template 'total and deterministic' (their statements: YtpdmeneigpipiaaGreatTotals.lean).
  GIVEN WITH THE SEED: the statements are not yours to turn. If you find one false, say at which input.
  Laid BY PROGRAM, IN A SANDBOX (cutbox-rows.mjs): the forced cells as the released guide's own fill.sh prints them over the translation cf07395315ceadae… (all of the seat's roots in one cut). By AI agents, Wed Nov 11 2026. No macro, syntax, notation, axiom, sorry.
-/
import Derived.Test.YtpdmeneigpipiaaGreatChecked
import GoSem.Claim
import GoSem.ClaimJoined
import GoSem.ClaimMapViews
import Derived.JoinedTies
import Derived.KernelRfl
namespace Go.Proofs.YtpdmeneigpipiaaGreat
/- THE CELL 'sum', in the pinned program and in every row, IS THE sha256 OF THE DUMP (.gsa) THAT YtpdmeneigpipiaaGreatProg.lean LOADS. Nothing in Lean hashes anything: it is a label: what it is worth is what the hold of that sum in a sandbox is worth. -/
noncomputable def Tryz.pinned : Pinned := { name := "ytpdmeneigpipiaagreat", sum := "cf07395315ceadaed8f62445353d125ed1f19c37a3b098a516ea725a50641b53", checked := Tryz.checked }
namespace Rows
def none {H : Type} : Left H := { results := [], args := [] }

/-- 'allotmentlaw18.AdoptCuts': WHATEVER THE INPUT: true; the input reads as it did. -/
def adoptCutsSpec : ChangeSpec := { name := "adoptCuts", fn := fun _ => fun
  | [d1, d2, d3] => { results := [.lit (.bool true)], args := [d1, d2, d3] }
  | _ => none }
def adoptCutsRow : OpenClaim := { program := "ytpdmeneigpipiaagreat", sum := "cf07395315ceadaed8f62445353d125ed1f19c37a3b098a516ea725a50641b53", func := "allotment/allotmentlaw18.AdoptCuts", spec := "adoptCuts", inPlace := ["math.Float64bits", "math.Float64frombits"], apart := false }
def AdoptCutsSaid : Prop := adoptCutsRow.holds Tryz.pinned (OpenSpec.ofChange adoptCutsSpec)

/-- ITS FALSE NEIGHBOUR: 'it returns false'. Refute it at one input. -/
def adoptCutsWrong : ChangeSpec := { name := "adoptCuts", fn := fun _ => fun
  | [d1, d2, d3] => { results := [.lit (.bool false)], args := [d1, d2, d3] }
  | _ => none }
def AdoptCutsWrongFalsely : Prop := adoptCutsRow.holds Tryz.pinned (OpenSpec.ofChange adoptCutsWrong)

/-- 'allotmentlaw13.SeekPlays': WHATEVER THE INPUT: true; the input reads as it did. -/
def seekPlaysSpec : ChangeSpec := { name := "seekPlays", fn := fun _ => fun
  | [d1, d2, d3] => { results := [.lit (.bool true)], args := [d1, d2, d3] }
  | _ => none }
def seekPlaysRow : OpenClaim := { program := "ytpdmeneigpipiaagreat", sum := "cf07395315ceadaed8f62445353d125ed1f19c37a3b098a516ea725a50641b53", func := "allotment/allotmentlaw13.SeekPlays", spec := "seekPlays", unfollowed := true, recurses := true, apart := false }
def SeekPlaysSaid : Prop := seekPlaysRow.holds Tryz.pinned (OpenSpec.ofChange seekPlaysSpec)

/-- ITS FALSE NEIGHBOUR: 'it returns false'. Refute it at one input. -/
def seekPlaysWrong : ChangeSpec := { name := "seekPlays", fn := fun _ => fun
  | [d1, d2, d3] => { results := [.lit (.bool false)], args := [d1, d2, d3] }
  | _ => none }
def SeekPlaysWrongFalsely : Prop := seekPlaysRow.holds Tryz.pinned (OpenSpec.ofChange seekPlaysWrong)

/-- 'allotmentlaw15.TakeApart': WHATEVER THE INPUT: true; the input reads as it did. -/
def takeApartSpec : ChangeSpec := { name := "takeApart", fn := fun _ => fun
  | [d1, d2, d3] => { results := [.lit (.bool true)], args := [d1, d2, d3] }
  | _ => none }
def takeApartRow : OpenClaim := { program := "ytpdmeneigpipiaagreat", sum := "cf07395315ceadaed8f62445353d125ed1f19c37a3b098a516ea725a50641b53", func := "allotment/allotmentlaw15.TakeApart", spec := "takeApart", unfollowed := true, recurses := true, apart := false }
def TakeApartSaid : Prop := takeApartRow.holds Tryz.pinned (OpenSpec.ofChange takeApartSpec)

/-- ITS FALSE NEIGHBOUR: 'it returns false'. Refute it at one input. -/
def takeApartWrong : ChangeSpec := { name := "takeApart", fn := fun _ => fun
  | [d1, d2, d3] => { results := [.lit (.bool false)], args := [d1, d2, d3] }
  | _ => none }
def TakeApartWrongFalsely : Prop := takeApartRow.holds Tryz.pinned (OpenSpec.ofChange takeApartWrong)

/-- 'allotmentlaw15.TakeMany': WHATEVER THE INPUT: true; the input reads as it did. -/
def takeManySpec : ChangeSpec := { name := "takeMany", fn := fun _ => fun
  | [d1, d2, d3] => { results := [.lit (.bool true)], args := [d1, d2, d3] }
  | _ => none }
def takeManyRow : OpenClaim := { program := "ytpdmeneigpipiaagreat", sum := "cf07395315ceadaed8f62445353d125ed1f19c37a3b098a516ea725a50641b53", func := "allotment/allotmentlaw15.TakeMany", spec := "takeMany", unfollowed := true, recurses := true, apart := false }
def TakeManySaid : Prop := takeManyRow.holds Tryz.pinned (OpenSpec.ofChange takeManySpec)

/-- ITS FALSE NEIGHBOUR: 'it returns false'. Refute it at one input. -/
def takeManyWrong : ChangeSpec := { name := "takeMany", fn := fun _ => fun
  | [d1, d2, d3] => { results := [.lit (.bool false)], args := [d1, d2, d3] }
  | _ => none }
def TakeManyWrongFalsely : Prop := takeManyRow.holds Tryz.pinned (OpenSpec.ofChange takeManyWrong)

/-- 'allotmentlaw15.TakeUndoes': WHATEVER THE INPUT: true; the input reads as it did. -/
def takeUndoesSpec : ChangeSpec := { name := "takeUndoes", fn := fun _ => fun
  | [d1, d2, d3] => { results := [.lit (.bool true)], args := [d1, d2, d3] }
  | _ => none }
def takeUndoesRow : OpenClaim := { program := "ytpdmeneigpipiaagreat", sum := "cf07395315ceadaed8f62445353d125ed1f19c37a3b098a516ea725a50641b53", func := "allotment/allotmentlaw15.TakeUndoes", spec := "takeUndoes", unfollowed := true, recurses := true, apart := false }
def TakeUndoesSaid : Prop := takeUndoesRow.holds Tryz.pinned (OpenSpec.ofChange takeUndoesSpec)

/-- ITS FALSE NEIGHBOUR: 'it returns false'. Refute it at one input. -/
def takeUndoesWrong : ChangeSpec := { name := "takeUndoes", fn := fun _ => fun
  | [d1, d2, d3] => { results := [.lit (.bool false)], args := [d1, d2, d3] }
  | _ => none }
def TakeUndoesWrongFalsely : Prop := takeUndoesRow.holds Tryz.pinned (OpenSpec.ofChange takeUndoesWrong)

/-- 'allotmentlaw16.GiveTakes': WHATEVER THE INPUT: true; the input reads as it did. -/
def giveTakesSpec : ChangeSpec := { name := "giveTakes", fn := fun _ => fun
  | [d1, d2, d3] => { results := [.lit (.bool true)], args := [d1, d2, d3] }
  | _ => none }
def giveTakesRow : OpenClaim := { program := "ytpdmeneigpipiaagreat", sum := "cf07395315ceadaed8f62445353d125ed1f19c37a3b098a516ea725a50641b53", func := "allotment/allotmentlaw16.GiveTakes", spec := "giveTakes", unfollowed := true, recurses := true, apart := false }
def GiveTakesSaid : Prop := giveTakesRow.holds Tryz.pinned (OpenSpec.ofChange giveTakesSpec)

/-- ITS FALSE NEIGHBOUR: 'it returns false'. Refute it at one input. -/
def giveTakesWrong : ChangeSpec := { name := "giveTakes", fn := fun _ => fun
  | [d1, d2, d3] => { results := [.lit (.bool false)], args := [d1, d2, d3] }
  | _ => none }
def GiveTakesWrongFalsely : Prop := giveTakesRow.holds Tryz.pinned (OpenSpec.ofChange giveTakesWrong)

/-- 'allotmentlaw17.RenewKeeps': WHATEVER THE INPUT: true; the input reads as it did. -/
def renewKeepsSpec : ChangeSpec := { name := "renewKeeps", fn := fun _ => fun
  | [d1, d2, d3] => { results := [.lit (.bool true)], args := [d1, d2, d3] }
  | _ => none }
def renewKeepsRow : OpenClaim := { program := "ytpdmeneigpipiaagreat", sum := "cf07395315ceadaed8f62445353d125ed1f19c37a3b098a516ea725a50641b53", func := "allotment/allotmentlaw17.RenewKeeps", spec := "renewKeeps", unfollowed := true, recurses := true, apart := false }
def RenewKeepsSaid : Prop := renewKeepsRow.holds Tryz.pinned (OpenSpec.ofChange renewKeepsSpec)

/-- ITS FALSE NEIGHBOUR: 'it returns false'. Refute it at one input. -/
def renewKeepsWrong : ChangeSpec := { name := "renewKeeps", fn := fun _ => fun
  | [d1, d2, d3] => { results := [.lit (.bool false)], args := [d1, d2, d3] }
  | _ => none }
def RenewKeepsWrongFalsely : Prop := renewKeepsRow.holds Tryz.pinned (OpenSpec.ofChange renewKeepsWrong)

/-- 'allotmentlaw17.RenewWell': WHATEVER THE INPUT: true; the input reads as it did. -/
def renewWellSpec : ChangeSpec := { name := "renewWell", fn := fun _ => fun
  | [d1, d2, d3] => { results := [.lit (.bool true)], args := [d1, d2, d3] }
  | _ => none }
def renewWellRow : OpenClaim := { program := "ytpdmeneigpipiaagreat", sum := "cf07395315ceadaed8f62445353d125ed1f19c37a3b098a516ea725a50641b53", func := "allotment/allotmentlaw17.RenewWell", spec := "renewWell", unfollowed := true, recurses := true, apart := false }
def RenewWellSaid : Prop := renewWellRow.holds Tryz.pinned (OpenSpec.ofChange renewWellSpec)

/-- ITS FALSE NEIGHBOUR: 'it returns false'. Refute it at one input. -/
def renewWellWrong : ChangeSpec := { name := "renewWell", fn := fun _ => fun
  | [d1, d2, d3] => { results := [.lit (.bool false)], args := [d1, d2, d3] }
  | _ => none }
def RenewWellWrongFalsely : Prop := renewWellRow.holds Tryz.pinned (OpenSpec.ofChange renewWellWrong)

/-- 'allotmentlaw17.RenewTwo': WHATEVER THE INPUT: true; the input reads as it did. -/
def renewTwoSpec : ChangeSpec := { name := "renewTwo", fn := fun _ => fun
  | [d1, d2, d3] => { results := [.lit (.bool true)], args := [d1, d2, d3] }
  | _ => none }
def renewTwoRow : OpenClaim := { program := "ytpdmeneigpipiaagreat", sum := "cf07395315ceadaed8f62445353d125ed1f19c37a3b098a516ea725a50641b53", func := "allotment/allotmentlaw17.RenewTwo", spec := "renewTwo", unfollowed := true, recurses := true, apart := false }
def RenewTwoSaid : Prop := renewTwoRow.holds Tryz.pinned (OpenSpec.ofChange renewTwoSpec)

/-- ITS FALSE NEIGHBOUR: 'it returns false'. Refute it at one input. -/
def renewTwoWrong : ChangeSpec := { name := "renewTwo", fn := fun _ => fun
  | [d1, d2, d3] => { results := [.lit (.bool false)], args := [d1, d2, d3] }
  | _ => none }
def RenewTwoWrongFalsely : Prop := renewTwoRow.holds Tryz.pinned (OpenSpec.ofChange renewTwoWrong)

/-- 'allotmentlaw17.RenewSelf': WHATEVER THE INPUT: true; the input reads as it did. -/
def renewSelfSpec : ChangeSpec := { name := "renewSelf", fn := fun _ => fun
  | [d1, d2] => { results := [.lit (.bool true)], args := [d1, d2] }
  | _ => none }
def renewSelfRow : OpenClaim := { program := "ytpdmeneigpipiaagreat", sum := "cf07395315ceadaed8f62445353d125ed1f19c37a3b098a516ea725a50641b53", func := "allotment/allotmentlaw17.RenewSelf", spec := "renewSelf", unfollowed := true, recurses := true, apart := false }
def RenewSelfSaid : Prop := renewSelfRow.holds Tryz.pinned (OpenSpec.ofChange renewSelfSpec)

/-- ITS FALSE NEIGHBOUR: 'it returns false'. Refute it at one input. -/
def renewSelfWrong : ChangeSpec := { name := "renewSelf", fn := fun _ => fun
  | [d1, d2] => { results := [.lit (.bool false)], args := [d1, d2] }
  | _ => none }
def RenewSelfWrongFalsely : Prop := renewSelfRow.holds Tryz.pinned (OpenSpec.ofChange renewSelfWrong)

/- THE SECOND FORM. 'bulk': how many values and letters a reading holds, each counted each time it is reached (what is shared counts as often as it is met; a slice's spare places count too). A statement '..UptoSaid' is the law's where the arguments, and the package variables that the reading takes, are together of bulk at most 1048576: NARROWER than '..Said'. Prove '..Said' where nothing that the law and all that it calls make is longer than what came in: it says more and counts as full. Else prove '..UptoSaid'. A law counts once. -/
mutual
def uptoBulk {H : Type} : DataW H → Nat
  | .lit (.string bytes) => bytes.length + 1
  | .lit _ => 1
  | .nil => 1
  | .ptr d => uptoBulk d + 1
  | .slice elems spare => uptoBulkAll elems + uptoBulkAll spare + 1
  | .agg parts => uptoBulkAll parts + 1
  | .iface _ d => uptoBulk d + 1
  | .map entries => uptoBulkEntries entries + 1
  | .held _ => 1
def uptoBulkAll {H : Type} : List (DataW H) → Nat
  | [] => 0
  | d :: r => uptoBulk d + uptoBulkAll r
def uptoBulkEntries {H : Type} : List (Lit × DataW H) → Nat
  | [] => 0
  | x :: r => uptoBulkEntry x + uptoBulkEntries r
def uptoBulkEntry {H : Type} : Lit × DataW H → Nat
  | (.string bytes, d) => bytes.length + uptoBulk d + 1
  | (_, d) => uptoBulk d + 1
 end
def uptoSmall : (H : Type) → List (DataW H) → Bool := fun _ ds => decide (uptoBulkAll ds ≤ 1048576)
def OpenSpec.upto (s : _root_.Go.ChangeSpec) : _root_.Go.OpenSpec := { _root_.Go.OpenSpec.ofChange s with cond := some uptoSmall }

/-- 'allotmentlaw18.AdoptCuts', WHERE WHAT IT READS IS OF BULK AT MOST 1048576: true; the input reads as it did. -/
def adoptCutsUptoRow : OpenClaim := { program := "ytpdmeneigpipiaagreat", sum := "cf07395315ceadaed8f62445353d125ed1f19c37a3b098a516ea725a50641b53", func := "allotment/allotmentlaw18.AdoptCuts", spec := "adoptCuts", inPlace := ["math.Float64bits", "math.Float64frombits"], apart := false, narrowed := true }
def AdoptCutsUptoSaid : Prop := adoptCutsUptoRow.holds Tryz.pinned (OpenSpec.upto adoptCutsSpec)

/-- 'allotmentlaw13.SeekPlays', WHERE WHAT IT READS IS OF BULK AT MOST 1048576: true; the input reads as it did. -/
def seekPlaysUptoRow : OpenClaim := { program := "ytpdmeneigpipiaagreat", sum := "cf07395315ceadaed8f62445353d125ed1f19c37a3b098a516ea725a50641b53", func := "allotment/allotmentlaw13.SeekPlays", spec := "seekPlays", unfollowed := true, recurses := true, apart := false, narrowed := true }
def SeekPlaysUptoSaid : Prop := seekPlaysUptoRow.holds Tryz.pinned (OpenSpec.upto seekPlaysSpec)

/-- 'allotmentlaw15.TakeApart', WHERE WHAT IT READS IS OF BULK AT MOST 1048576: true; the input reads as it did. -/
def takeApartUptoRow : OpenClaim := { program := "ytpdmeneigpipiaagreat", sum := "cf07395315ceadaed8f62445353d125ed1f19c37a3b098a516ea725a50641b53", func := "allotment/allotmentlaw15.TakeApart", spec := "takeApart", unfollowed := true, recurses := true, apart := false, narrowed := true }
def TakeApartUptoSaid : Prop := takeApartUptoRow.holds Tryz.pinned (OpenSpec.upto takeApartSpec)

/-- 'allotmentlaw15.TakeMany', WHERE WHAT IT READS IS OF BULK AT MOST 1048576: true; the input reads as it did. -/
def takeManyUptoRow : OpenClaim := { program := "ytpdmeneigpipiaagreat", sum := "cf07395315ceadaed8f62445353d125ed1f19c37a3b098a516ea725a50641b53", func := "allotment/allotmentlaw15.TakeMany", spec := "takeMany", unfollowed := true, recurses := true, apart := false, narrowed := true }
def TakeManyUptoSaid : Prop := takeManyUptoRow.holds Tryz.pinned (OpenSpec.upto takeManySpec)

/-- 'allotmentlaw15.TakeUndoes', WHERE WHAT IT READS IS OF BULK AT MOST 1048576: true; the input reads as it did. -/
def takeUndoesUptoRow : OpenClaim := { program := "ytpdmeneigpipiaagreat", sum := "cf07395315ceadaed8f62445353d125ed1f19c37a3b098a516ea725a50641b53", func := "allotment/allotmentlaw15.TakeUndoes", spec := "takeUndoes", unfollowed := true, recurses := true, apart := false, narrowed := true }
def TakeUndoesUptoSaid : Prop := takeUndoesUptoRow.holds Tryz.pinned (OpenSpec.upto takeUndoesSpec)

/-- 'allotmentlaw16.GiveTakes', WHERE WHAT IT READS IS OF BULK AT MOST 1048576: true; the input reads as it did. -/
def giveTakesUptoRow : OpenClaim := { program := "ytpdmeneigpipiaagreat", sum := "cf07395315ceadaed8f62445353d125ed1f19c37a3b098a516ea725a50641b53", func := "allotment/allotmentlaw16.GiveTakes", spec := "giveTakes", unfollowed := true, recurses := true, apart := false, narrowed := true }
def GiveTakesUptoSaid : Prop := giveTakesUptoRow.holds Tryz.pinned (OpenSpec.upto giveTakesSpec)

/-- 'allotmentlaw17.RenewKeeps', WHERE WHAT IT READS IS OF BULK AT MOST 1048576: true; the input reads as it did. -/
def renewKeepsUptoRow : OpenClaim := { program := "ytpdmeneigpipiaagreat", sum := "cf07395315ceadaed8f62445353d125ed1f19c37a3b098a516ea725a50641b53", func := "allotment/allotmentlaw17.RenewKeeps", spec := "renewKeeps", unfollowed := true, recurses := true, apart := false, narrowed := true }
def RenewKeepsUptoSaid : Prop := renewKeepsUptoRow.holds Tryz.pinned (OpenSpec.upto renewKeepsSpec)

/-- 'allotmentlaw17.RenewWell', WHERE WHAT IT READS IS OF BULK AT MOST 1048576: true; the input reads as it did. -/
def renewWellUptoRow : OpenClaim := { program := "ytpdmeneigpipiaagreat", sum := "cf07395315ceadaed8f62445353d125ed1f19c37a3b098a516ea725a50641b53", func := "allotment/allotmentlaw17.RenewWell", spec := "renewWell", unfollowed := true, recurses := true, apart := false, narrowed := true }
def RenewWellUptoSaid : Prop := renewWellUptoRow.holds Tryz.pinned (OpenSpec.upto renewWellSpec)

/-- 'allotmentlaw17.RenewTwo', WHERE WHAT IT READS IS OF BULK AT MOST 1048576: true; the input reads as it did. -/
def renewTwoUptoRow : OpenClaim := { program := "ytpdmeneigpipiaagreat", sum := "cf07395315ceadaed8f62445353d125ed1f19c37a3b098a516ea725a50641b53", func := "allotment/allotmentlaw17.RenewTwo", spec := "renewTwo", unfollowed := true, recurses := true, apart := false, narrowed := true }
def RenewTwoUptoSaid : Prop := renewTwoUptoRow.holds Tryz.pinned (OpenSpec.upto renewTwoSpec)

/-- 'allotmentlaw17.RenewSelf', WHERE WHAT IT READS IS OF BULK AT MOST 1048576: true; the input reads as it did. -/
def renewSelfUptoRow : OpenClaim := { program := "ytpdmeneigpipiaagreat", sum := "cf07395315ceadaed8f62445353d125ed1f19c37a3b098a516ea725a50641b53", func := "allotment/allotmentlaw17.RenewSelf", spec := "renewSelf", unfollowed := true, recurses := true, apart := false, narrowed := true }
def RenewSelfUptoSaid : Prop := renewSelfUptoRow.holds Tryz.pinned (OpenSpec.upto renewSelfSpec)

end Rows
end Go.Proofs.YtpdmeneigpipiaaGreat
