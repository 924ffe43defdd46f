/-
  No cell of these rows narrows 'for every input' (looked for: loops, veiled, ifaces, maps, wideKeys, modest, calm, conditions, laid).
  DERIVED. THE GIVEN ROWS OF THIS SEAT. 9 by the template 'for every input the law returns true; each argument reads behind the call as it read before'; 0 by the template 'total and deterministic' (their statements: YtfopnendmcpglaaTotals.lean).
  GIVEN WITH THE SEED: the statements are not yours to turn. If you find one false, say at which input.
  Laid BY PROGRAM, IN A SANDBOX (cutbox-rows.mjs): the forced cells as the released guide's own fill.sh prints them over the translation 475adf8b71cd8d28… (all of the seat's roots in one cut). By AI agents, Wed Nov 11 2026. No macro, syntax, notation, axiom, sorry.
-/
import Derived.Test.YtfopnendmcpglaaChecked
import GoSem.Claim
import GoSem.ClaimJoined
import GoSem.ClaimMapViews
import Derived.JoinedTies
import Derived.KernelRfl
namespace Go.Proofs.Ytfopnendmcpglaa
/- THE CELL 'sum', in the pinned program and in every row, IS THE sha256 OF THE DUMP (.gsa) THAT YtfopnendmcpglaaProg.lean LOADS. Nothing in Lean hashes anything: it is a label: what it is worth is what the hold of that sum in a sandbox is worth. -/
noncomputable def Try.pinned : Pinned := { name := "ytfopnendmcpglaa", sum := "475adf8b71cd8d288445cefc93dff813427a88348c4019db206848d715fb6139", checked := Try.checked }
namespace Rows
def none {H : Type} : Left H := { results := [], args := [] }

/-- 'allotmentlaw14.RunSound': WHATEVER THE INPUT: true; the input reads as it did. -/
def runSoundSpec : ChangeSpec := { name := "runSound", fn := fun _ => fun
  | [d1, d2, d3] => { results := [.lit (.bool true)], args := [d1, d2, d3] }
  | _ => none }
def runSoundRow : OpenClaim := { program := "ytfopnendmcpglaa", sum := "475adf8b71cd8d288445cefc93dff813427a88348c4019db206848d715fb6139", func := "allotment/allotmentlaw14.RunSound", spec := "runSound", apart := false }
def RunSoundSaid : Prop := runSoundRow.holds Try.pinned (OpenSpec.ofChange runSoundSpec)

/-- ITS FALSE NEIGHBOUR: 'it returns false'. Refute it at one input. -/
def runSoundWrong : ChangeSpec := { name := "runSound", fn := fun _ => fun
  | [d1, d2, d3] => { results := [.lit (.bool false)], args := [d1, d2, d3] }
  | _ => none }
def RunSoundWrongFalsely : Prop := runSoundRow.holds Try.pinned (OpenSpec.ofChange runSoundWrong)

/-- 'allotmentlaw16.GiveAll': WHATEVER THE INPUT: true; the input reads as it did. -/
def giveAllSpec : ChangeSpec := { name := "giveAll", fn := fun _ => fun
  | [d1, d2, d3] => { results := [.lit (.bool true)], args := [d1, d2, d3] }
  | _ => none }
def giveAllRow : OpenClaim := { program := "ytfopnendmcpglaa", sum := "475adf8b71cd8d288445cefc93dff813427a88348c4019db206848d715fb6139", func := "allotment/allotmentlaw16.GiveAll", spec := "giveAll", apart := false }
def GiveAllSaid : Prop := giveAllRow.holds Try.pinned (OpenSpec.ofChange giveAllSpec)

/-- ITS FALSE NEIGHBOUR: 'it returns false'. Refute it at one input. -/
def giveAllWrong : ChangeSpec := { name := "giveAll", fn := fun _ => fun
  | [d1, d2, d3] => { results := [.lit (.bool false)], args := [d1, d2, d3] }
  | _ => none }
def GiveAllWrongFalsely : Prop := giveAllRow.holds Try.pinned (OpenSpec.ofChange giveAllWrong)

/-- 'allotmentlaw18.AdoptChain': WHATEVER THE INPUT: true; the input reads as it did. -/
def adoptChainSpec : ChangeSpec := { name := "adoptChain", fn := fun _ => fun
  | [d1, d2, d3] => { results := [.lit (.bool true)], args := [d1, d2, d3] }
  | _ => none }
def adoptChainRow : OpenClaim := { program := "ytfopnendmcpglaa", sum := "475adf8b71cd8d288445cefc93dff813427a88348c4019db206848d715fb6139", func := "allotment/allotmentlaw18.AdoptChain", spec := "adoptChain", apart := false }
def AdoptChainSaid : Prop := adoptChainRow.holds Try.pinned (OpenSpec.ofChange adoptChainSpec)

/-- ITS FALSE NEIGHBOUR: 'it returns false'. Refute it at one input. -/
def adoptChainWrong : ChangeSpec := { name := "adoptChain", fn := fun _ => fun
  | [d1, d2, d3] => { results := [.lit (.bool false)], args := [d1, d2, d3] }
  | _ => none }
def AdoptChainWrongFalsely : Prop := adoptChainRow.holds Try.pinned (OpenSpec.ofChange adoptChainWrong)

/-- 'allotmentlaw18.AdoptOthers': WHATEVER THE INPUT: true; the input reads as it did. -/
def adoptOthersSpec : ChangeSpec := { name := "adoptOthers", fn := fun _ => fun
  | [d1, d2] => { results := [.lit (.bool true)], args := [d1, d2] }
  | _ => none }
def adoptOthersRow : OpenClaim := { program := "ytfopnendmcpglaa", sum := "475adf8b71cd8d288445cefc93dff813427a88348c4019db206848d715fb6139", func := "allotment/allotmentlaw18.AdoptOthers", spec := "adoptOthers", apart := false }
def AdoptOthersSaid : Prop := adoptOthersRow.holds Try.pinned (OpenSpec.ofChange adoptOthersSpec)

/-- ITS FALSE NEIGHBOUR: 'it returns false'. Refute it at one input. -/
def adoptOthersWrong : ChangeSpec := { name := "adoptOthers", fn := fun _ => fun
  | [d1, d2] => { results := [.lit (.bool false)], args := [d1, d2] }
  | _ => none }
def AdoptOthersWrongFalsely : Prop := adoptOthersRow.holds Try.pinned (OpenSpec.ofChange adoptOthersWrong)

/-- 'allotmentlaw13.SeekEmpties': WHATEVER THE INPUT: true; the input reads as it did. -/
def seekEmptiesSpec : ChangeSpec := { name := "seekEmpties", fn := fun _ => fun
  | [d1, d2, d3] => { results := [.lit (.bool true)], args := [d1, d2, d3] }
  | _ => none }
def seekEmptiesRow : OpenClaim := { program := "ytfopnendmcpglaa", sum := "475adf8b71cd8d288445cefc93dff813427a88348c4019db206848d715fb6139", func := "allotment/allotmentlaw13.SeekEmpties", spec := "seekEmpties", unfollowed := true, recurses := true, apart := false }
def SeekEmptiesSaid : Prop := seekEmptiesRow.holds Try.pinned (OpenSpec.ofChange seekEmptiesSpec)

/-- ITS FALSE NEIGHBOUR: 'it returns false'. Refute it at one input. -/
def seekEmptiesWrong : ChangeSpec := { name := "seekEmpties", fn := fun _ => fun
  | [d1, d2, d3] => { results := [.lit (.bool false)], args := [d1, d2, d3] }
  | _ => none }
def SeekEmptiesWrongFalsely : Prop := seekEmptiesRow.holds Try.pinned (OpenSpec.ofChange seekEmptiesWrong)

/-- 'allotmentlaw13.SeekMany': WHATEVER THE INPUT: true; the input reads as it did. -/
def seekManySpec : ChangeSpec := { name := "seekMany", fn := fun _ => fun
  | [d1, d2, d3] => { results := [.lit (.bool true)], args := [d1, d2, d3] }
  | _ => none }
def seekManyRow : OpenClaim := { program := "ytfopnendmcpglaa", sum := "475adf8b71cd8d288445cefc93dff813427a88348c4019db206848d715fb6139", func := "allotment/allotmentlaw13.SeekMany", spec := "seekMany", unfollowed := true, recurses := true, apart := false }
def SeekManySaid : Prop := seekManyRow.holds Try.pinned (OpenSpec.ofChange seekManySpec)

/-- ITS FALSE NEIGHBOUR: 'it returns false'. Refute it at one input. -/
def seekManyWrong : ChangeSpec := { name := "seekMany", fn := fun _ => fun
  | [d1, d2, d3] => { results := [.lit (.bool false)], args := [d1, d2, d3] }
  | _ => none }
def SeekManyWrongFalsely : Prop := seekManyRow.holds Try.pinned (OpenSpec.ofChange seekManyWrong)

/-- 'allotmentlaw13.SeekOwn': WHATEVER THE INPUT: true; the input reads as it did. -/
def seekOwnSpec : ChangeSpec := { name := "seekOwn", fn := fun _ => fun
  | [d1, d2, d3] => { results := [.lit (.bool true)], args := [d1, d2, d3] }
  | _ => none }
def seekOwnRow : OpenClaim := { program := "ytfopnendmcpglaa", sum := "475adf8b71cd8d288445cefc93dff813427a88348c4019db206848d715fb6139", func := "allotment/allotmentlaw13.SeekOwn", spec := "seekOwn", unfollowed := true, recurses := true, apart := false }
def SeekOwnSaid : Prop := seekOwnRow.holds Try.pinned (OpenSpec.ofChange seekOwnSpec)

/-- ITS FALSE NEIGHBOUR: 'it returns false'. Refute it at one input. -/
def seekOwnWrong : ChangeSpec := { name := "seekOwn", fn := fun _ => fun
  | [d1, d2, d3] => { results := [.lit (.bool false)], args := [d1, d2, d3] }
  | _ => none }
def SeekOwnWrongFalsely : Prop := seekOwnRow.holds Try.pinned (OpenSpec.ofChange seekOwnWrong)

/-- 'allotmentlaw13.SeekFirst': WHATEVER THE INPUT: true; the input reads as it did. -/
def seekFirstSpec : ChangeSpec := { name := "seekFirst", fn := fun _ => fun
  | [d1, d2, d3] => { results := [.lit (.bool true)], args := [d1, d2, d3] }
  | _ => none }
def seekFirstRow : OpenClaim := { program := "ytfopnendmcpglaa", sum := "475adf8b71cd8d288445cefc93dff813427a88348c4019db206848d715fb6139", func := "allotment/allotmentlaw13.SeekFirst", spec := "seekFirst", unfollowed := true, recurses := true, apart := false }
def SeekFirstSaid : Prop := seekFirstRow.holds Try.pinned (OpenSpec.ofChange seekFirstSpec)

/-- ITS FALSE NEIGHBOUR: 'it returns false'. Refute it at one input. -/
def seekFirstWrong : ChangeSpec := { name := "seekFirst", fn := fun _ => fun
  | [d1, d2, d3] => { results := [.lit (.bool false)], args := [d1, d2, d3] }
  | _ => none }
def SeekFirstWrongFalsely : Prop := seekFirstRow.holds Try.pinned (OpenSpec.ofChange seekFirstWrong)

/-- 'allotmentlaw14.RunSeek': WHATEVER THE INPUT: true; the input reads as it did. -/
def runSeekSpec : ChangeSpec := { name := "runSeek", fn := fun _ => fun
  | [d1, d2, d3] => { results := [.lit (.bool true)], args := [d1, d2, d3] }
  | _ => none }
def runSeekRow : OpenClaim := { program := "ytfopnendmcpglaa", sum := "475adf8b71cd8d288445cefc93dff813427a88348c4019db206848d715fb6139", func := "allotment/allotmentlaw14.RunSeek", spec := "runSeek", unfollowed := true, recurses := true, apart := false }
def RunSeekSaid : Prop := runSeekRow.holds Try.pinned (OpenSpec.ofChange runSeekSpec)

/-- ITS FALSE NEIGHBOUR: 'it returns false'. Refute it at one input. -/
def runSeekWrong : ChangeSpec := { name := "runSeek", fn := fun _ => fun
  | [d1, d2, d3] => { results := [.lit (.bool false)], args := [d1, d2, d3] }
  | _ => none }
def RunSeekWrongFalsely : Prop := runSeekRow.holds Try.pinned (OpenSpec.ofChange runSeekWrong)

/- THE SECOND FORM. 'bulk': how many values and letters a reading holds, each counted each time it is reached (what is shared counts as often as it is met; a slice's spare places count too). A statement '..UptoSaid' is the law's where the arguments, and the package variables that the reading takes, are together of bulk at most 1048576: NARROWER than '..Said'. Prove '..Said' where nothing that the law and all that it calls make is longer than what came in: it says more and counts as full. Else prove '..UptoSaid'. A law counts once. -/
mutual
def uptoBulk {H : Type} : DataW H → Nat
  | .lit (.string bytes) => bytes.length + 1
  | .lit _ => 1
  | .nil => 1
  | .ptr d => uptoBulk d + 1
  | .slice elems spare => uptoBulkAll elems + uptoBulkAll spare + 1
  | .agg parts => uptoBulkAll parts + 1
  | .iface _ d => uptoBulk d + 1
  | .map entries => uptoBulkEntries entries + 1
  | .held _ => 1
def uptoBulkAll {H : Type} : List (DataW H) → Nat
  | [] => 0
  | d :: r => uptoBulk d + uptoBulkAll r
def uptoBulkEntries {H : Type} : List (Lit × DataW H) → Nat
  | [] => 0
  | x :: r => uptoBulkEntry x + uptoBulkEntries r
def uptoBulkEntry {H : Type} : Lit × DataW H → Nat
  | (.string bytes, d) => bytes.length + uptoBulk d + 1
  | (_, d) => uptoBulk d + 1
 end
def uptoSmall : (H : Type) → List (DataW H) → Bool := fun _ ds => decide (uptoBulkAll ds ≤ 1048576)
def OpenSpec.upto (s : _root_.Go.ChangeSpec) : _root_.Go.OpenSpec := { _root_.Go.OpenSpec.ofChange s with cond := some uptoSmall }

/-- 'allotmentlaw14.RunSound', WHERE WHAT IT READS IS OF BULK AT MOST 1048576: true; the input reads as it did. -/
def runSoundUptoRow : OpenClaim := { program := "ytfopnendmcpglaa", sum := "475adf8b71cd8d288445cefc93dff813427a88348c4019db206848d715fb6139", func := "allotment/allotmentlaw14.RunSound", spec := "runSound", apart := false, narrowed := true }
def RunSoundUptoSaid : Prop := runSoundUptoRow.holds Try.pinned (OpenSpec.upto runSoundSpec)

/-- 'allotmentlaw16.GiveAll', WHERE WHAT IT READS IS OF BULK AT MOST 1048576: true; the input reads as it did. -/
def giveAllUptoRow : OpenClaim := { program := "ytfopnendmcpglaa", sum := "475adf8b71cd8d288445cefc93dff813427a88348c4019db206848d715fb6139", func := "allotment/allotmentlaw16.GiveAll", spec := "giveAll", apart := false, narrowed := true }
def GiveAllUptoSaid : Prop := giveAllUptoRow.holds Try.pinned (OpenSpec.upto giveAllSpec)

/-- 'allotmentlaw18.AdoptChain', WHERE WHAT IT READS IS OF BULK AT MOST 1048576: true; the input reads as it did. -/
def adoptChainUptoRow : OpenClaim := { program := "ytfopnendmcpglaa", sum := "475adf8b71cd8d288445cefc93dff813427a88348c4019db206848d715fb6139", func := "allotment/allotmentlaw18.AdoptChain", spec := "adoptChain", apart := false, narrowed := true }
def AdoptChainUptoSaid : Prop := adoptChainUptoRow.holds Try.pinned (OpenSpec.upto adoptChainSpec)

/-- 'allotmentlaw18.AdoptOthers', WHERE WHAT IT READS IS OF BULK AT MOST 1048576: true; the input reads as it did. -/
def adoptOthersUptoRow : OpenClaim := { program := "ytfopnendmcpglaa", sum := "475adf8b71cd8d288445cefc93dff813427a88348c4019db206848d715fb6139", func := "allotment/allotmentlaw18.AdoptOthers", spec := "adoptOthers", apart := false, narrowed := true }
def AdoptOthersUptoSaid : Prop := adoptOthersUptoRow.holds Try.pinned (OpenSpec.upto adoptOthersSpec)

/-- 'allotmentlaw13.SeekEmpties', WHERE WHAT IT READS IS OF BULK AT MOST 1048576: true; the input reads as it did. -/
def seekEmptiesUptoRow : OpenClaim := { program := "ytfopnendmcpglaa", sum := "475adf8b71cd8d288445cefc93dff813427a88348c4019db206848d715fb6139", func := "allotment/allotmentlaw13.SeekEmpties", spec := "seekEmpties", unfollowed := true, recurses := true, apart := false, narrowed := true }
def SeekEmptiesUptoSaid : Prop := seekEmptiesUptoRow.holds Try.pinned (OpenSpec.upto seekEmptiesSpec)

/-- 'allotmentlaw13.SeekMany', WHERE WHAT IT READS IS OF BULK AT MOST 1048576: true; the input reads as it did. -/
def seekManyUptoRow : OpenClaim := { program := "ytfopnendmcpglaa", sum := "475adf8b71cd8d288445cefc93dff813427a88348c4019db206848d715fb6139", func := "allotment/allotmentlaw13.SeekMany", spec := "seekMany", unfollowed := true, recurses := true, apart := false, narrowed := true }
def SeekManyUptoSaid : Prop := seekManyUptoRow.holds Try.pinned (OpenSpec.upto seekManySpec)

/-- 'allotmentlaw13.SeekOwn', WHERE WHAT IT READS IS OF BULK AT MOST 1048576: true; the input reads as it did. -/
def seekOwnUptoRow : OpenClaim := { program := "ytfopnendmcpglaa", sum := "475adf8b71cd8d288445cefc93dff813427a88348c4019db206848d715fb6139", func := "allotment/allotmentlaw13.SeekOwn", spec := "seekOwn", unfollowed := true, recurses := true, apart := false, narrowed := true }
def SeekOwnUptoSaid : Prop := seekOwnUptoRow.holds Try.pinned (OpenSpec.upto seekOwnSpec)

/-- 'allotmentlaw13.SeekFirst', WHERE WHAT IT READS IS OF BULK AT MOST 1048576: true; the input reads as it did. -/
def seekFirstUptoRow : OpenClaim := { program := "ytfopnendmcpglaa", sum := "475adf8b71cd8d288445cefc93dff813427a88348c4019db206848d715fb6139", func := "allotment/allotmentlaw13.SeekFirst", spec := "seekFirst", unfollowed := true, recurses := true, apart := false, narrowed := true }
def SeekFirstUptoSaid : Prop := seekFirstUptoRow.holds Try.pinned (OpenSpec.upto seekFirstSpec)

/-- 'allotmentlaw14.RunSeek', WHERE WHAT IT READS IS OF BULK AT MOST 1048576: true; the input reads as it did. -/
def runSeekUptoRow : OpenClaim := { program := "ytfopnendmcpglaa", sum := "475adf8b71cd8d288445cefc93dff813427a88348c4019db206848d715fb6139", func := "allotment/allotmentlaw14.RunSeek", spec := "runSeek", unfollowed := true, recurses := true, apart := false, narrowed := true }
def RunSeekUptoSaid : Prop := runSeekUptoRow.holds Try.pinned (OpenSpec.upto runSeekSpec)

end Rows
end Go.Proofs.Ytfopnendmcpglaa
