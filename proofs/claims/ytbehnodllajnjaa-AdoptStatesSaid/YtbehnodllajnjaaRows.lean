/-
  No cell of these rows narrows 'for every input' (looked for: loops, veiled, ifaces, maps, wideKeys, modest, calm, conditions, laid).
  DERIVED. THE GIVEN ROWS OF THIS SEAT. 12 by the template 'for every input the law returns true; each argument reads behind the call as it read before'; 0 by the template 'total and deterministic' (their statements: YtbehnodllajnjaaTotals.lean).
  GIVEN WITH THE SEED: the statements are not yours to turn. If you find one false, say at which input.
  Laid BY PROGRAM, IN A SANDBOX (cutbox-rows.mjs): the forced cells as the released guide's own fill.sh prints them over the translation 13b94d744f3eaab5… (all of the seat's roots in one cut). By AI agents, Wed Nov 11 2026. No macro, syntax, notation, axiom, sorry.
-/
import Derived.Test.YtbehnodllajnjaaChecked
import GoSem.Claim
import GoSem.ClaimJoined
import GoSem.ClaimMapViews
import Derived.JoinedTies
import Derived.KernelRfl
namespace Go.Proofs.Ytbehnodllajnjaa
/- THE CELL 'sum', in the pinned program and in every row, IS THE sha256 OF THE DUMP (.gsa) THAT YtbehnodllajnjaaProg.lean LOADS. Nothing in Lean hashes anything: it is a label: what it is worth is what the hold of that sum in a sandbox is worth. -/
noncomputable def Try.pinned : Pinned := { name := "ytbehnodllajnjaa", sum := "13b94d744f3eaab57f53c3e12cc159ffd289c92cbd969a84138436c809bd2d12", checked := Try.checked }
namespace Rows
def none {H : Type} : Left H := { results := [], args := [] }

/-- 'allotmentlaw14.RunRows': WHATEVER THE INPUT: true; the input reads as it did. -/
def runRowsSpec : ChangeSpec := { name := "runRows", fn := fun _ => fun
  | [d1, d2] => { results := [.lit (.bool true)], args := [d1, d2] }
  | _ => none }
def runRowsRow : OpenClaim := { program := "ytbehnodllajnjaa", sum := "13b94d744f3eaab57f53c3e12cc159ffd289c92cbd969a84138436c809bd2d12", func := "allotment/allotmentlaw14.RunRows", spec := "runRows", apart := false }
def RunRowsSaid : Prop := runRowsRow.holds Try.pinned (OpenSpec.ofChange runRowsSpec)

/-- ITS FALSE NEIGHBOUR: 'it returns false'. Refute it at one input. -/
def runRowsWrong : ChangeSpec := { name := "runRows", fn := fun _ => fun
  | [d1, d2] => { results := [.lit (.bool false)], args := [d1, d2] }
  | _ => none }
def RunRowsWrongFalsely : Prop := runRowsRow.holds Try.pinned (OpenSpec.ofChange runRowsWrong)

/-- 'allotmentlaw14.RunTwo': WHATEVER THE INPUT: true; the input reads as it did. -/
def runTwoSpec : ChangeSpec := { name := "runTwo", fn := fun _ => fun
  | [d1, d2, d3] => { results := [.lit (.bool true)], args := [d1, d2, d3] }
  | _ => none }
def runTwoRow : OpenClaim := { program := "ytbehnodllajnjaa", sum := "13b94d744f3eaab57f53c3e12cc159ffd289c92cbd969a84138436c809bd2d12", func := "allotment/allotmentlaw14.RunTwo", spec := "runTwo", apart := false }
def RunTwoSaid : Prop := runTwoRow.holds Try.pinned (OpenSpec.ofChange runTwoSpec)

/-- ITS FALSE NEIGHBOUR: 'it returns false'. Refute it at one input. -/
def runTwoWrong : ChangeSpec := { name := "runTwo", fn := fun _ => fun
  | [d1, d2, d3] => { results := [.lit (.bool false)], args := [d1, d2, d3] }
  | _ => none }
def RunTwoWrongFalsely : Prop := runTwoRow.holds Try.pinned (OpenSpec.ofChange runTwoWrong)

/-- 'allotmentlaw16.GiveTwo': WHATEVER THE INPUT: true; the input reads as it did. -/
def giveTwoSpec : ChangeSpec := { name := "giveTwo", fn := fun _ => fun
  | [d1, d2, d3] => { results := [.lit (.bool true)], args := [d1, d2, d3] }
  | _ => none }
def giveTwoRow : OpenClaim := { program := "ytbehnodllajnjaa", sum := "13b94d744f3eaab57f53c3e12cc159ffd289c92cbd969a84138436c809bd2d12", func := "allotment/allotmentlaw16.GiveTwo", spec := "giveTwo", apart := false }
def GiveTwoSaid : Prop := giveTwoRow.holds Try.pinned (OpenSpec.ofChange giveTwoSpec)

/-- ITS FALSE NEIGHBOUR: 'it returns false'. Refute it at one input. -/
def giveTwoWrong : ChangeSpec := { name := "giveTwo", fn := fun _ => fun
  | [d1, d2, d3] => { results := [.lit (.bool false)], args := [d1, d2, d3] }
  | _ => none }
def GiveTwoWrongFalsely : Prop := giveTwoRow.holds Try.pinned (OpenSpec.ofChange giveTwoWrong)

/-- 'allotmentlaw16.GiveRemote': WHATEVER THE INPUT: true; the input reads as it did. -/
def giveRemoteSpec : ChangeSpec := { name := "giveRemote", fn := fun _ => fun
  | [d1, d2, d3] => { results := [.lit (.bool true)], args := [d1, d2, d3] }
  | _ => none }
def giveRemoteRow : OpenClaim := { program := "ytbehnodllajnjaa", sum := "13b94d744f3eaab57f53c3e12cc159ffd289c92cbd969a84138436c809bd2d12", func := "allotment/allotmentlaw16.GiveRemote", spec := "giveRemote", apart := false }
def GiveRemoteSaid : Prop := giveRemoteRow.holds Try.pinned (OpenSpec.ofChange giveRemoteSpec)

/-- ITS FALSE NEIGHBOUR: 'it returns false'. Refute it at one input. -/
def giveRemoteWrong : ChangeSpec := { name := "giveRemote", fn := fun _ => fun
  | [d1, d2, d3] => { results := [.lit (.bool false)], args := [d1, d2, d3] }
  | _ => none }
def GiveRemoteWrongFalsely : Prop := giveRemoteRow.holds Try.pinned (OpenSpec.ofChange giveRemoteWrong)

/-- 'allotmentlaw14.RunSound': WHATEVER THE INPUT: true; the input reads as it did. -/
def runSoundSpec : ChangeSpec := { name := "runSound", fn := fun _ => fun
  | [d1, d2, d3] => { results := [.lit (.bool true)], args := [d1, d2, d3] }
  | _ => none }
def runSoundRow : OpenClaim := { program := "ytbehnodllajnjaa", sum := "13b94d744f3eaab57f53c3e12cc159ffd289c92cbd969a84138436c809bd2d12", func := "allotment/allotmentlaw14.RunSound", spec := "runSound", apart := false }
def RunSoundSaid : Prop := runSoundRow.holds Try.pinned (OpenSpec.ofChange runSoundSpec)

/-- ITS FALSE NEIGHBOUR: 'it returns false'. Refute it at one input. -/
def runSoundWrong : ChangeSpec := { name := "runSound", fn := fun _ => fun
  | [d1, d2, d3] => { results := [.lit (.bool false)], args := [d1, d2, d3] }
  | _ => none }
def RunSoundWrongFalsely : Prop := runSoundRow.holds Try.pinned (OpenSpec.ofChange runSoundWrong)

/-- 'allotmentlaw16.GiveAll': WHATEVER THE INPUT: true; the input reads as it did. -/
def giveAllSpec : ChangeSpec := { name := "giveAll", fn := fun _ => fun
  | [d1, d2, d3] => { results := [.lit (.bool true)], args := [d1, d2, d3] }
  | _ => none }
def giveAllRow : OpenClaim := { program := "ytbehnodllajnjaa", sum := "13b94d744f3eaab57f53c3e12cc159ffd289c92cbd969a84138436c809bd2d12", func := "allotment/allotmentlaw16.GiveAll", spec := "giveAll", apart := false }
def GiveAllSaid : Prop := giveAllRow.holds Try.pinned (OpenSpec.ofChange giveAllSpec)

/-- ITS FALSE NEIGHBOUR: 'it returns false'. Refute it at one input. -/
def giveAllWrong : ChangeSpec := { name := "giveAll", fn := fun _ => fun
  | [d1, d2, d3] => { results := [.lit (.bool false)], args := [d1, d2, d3] }
  | _ => none }
def GiveAllWrongFalsely : Prop := giveAllRow.holds Try.pinned (OpenSpec.ofChange giveAllWrong)

/-- 'allotmentlaw14.RunPlays': WHATEVER THE INPUT: true; the input reads as it did. -/
def runPlaysSpec : ChangeSpec := { name := "runPlays", fn := fun _ => fun
  | [d1, d2, d3] => { results := [.lit (.bool true)], args := [d1, d2, d3] }
  | _ => none }
def runPlaysRow : OpenClaim := { program := "ytbehnodllajnjaa", sum := "13b94d744f3eaab57f53c3e12cc159ffd289c92cbd969a84138436c809bd2d12", func := "allotment/allotmentlaw14.RunPlays", spec := "runPlays", apart := false }
def RunPlaysSaid : Prop := runPlaysRow.holds Try.pinned (OpenSpec.ofChange runPlaysSpec)

/-- ITS FALSE NEIGHBOUR: 'it returns false'. Refute it at one input. -/
def runPlaysWrong : ChangeSpec := { name := "runPlays", fn := fun _ => fun
  | [d1, d2, d3] => { results := [.lit (.bool false)], args := [d1, d2, d3] }
  | _ => none }
def RunPlaysWrongFalsely : Prop := runPlaysRow.holds Try.pinned (OpenSpec.ofChange runPlaysWrong)

/-- 'allotmentlaw16.GivePlays': WHATEVER THE INPUT: true; the input reads as it did. -/
def givePlaysSpec : ChangeSpec := { name := "givePlays", fn := fun _ => fun
  | [d1, d2, d3] => { results := [.lit (.bool true)], args := [d1, d2, d3] }
  | _ => none }
def givePlaysRow : OpenClaim := { program := "ytbehnodllajnjaa", sum := "13b94d744f3eaab57f53c3e12cc159ffd289c92cbd969a84138436c809bd2d12", func := "allotment/allotmentlaw16.GivePlays", spec := "givePlays", apart := false }
def GivePlaysSaid : Prop := givePlaysRow.holds Try.pinned (OpenSpec.ofChange givePlaysSpec)

/-- ITS FALSE NEIGHBOUR: 'it returns false'. Refute it at one input. -/
def givePlaysWrong : ChangeSpec := { name := "givePlays", fn := fun _ => fun
  | [d1, d2, d3] => { results := [.lit (.bool false)], args := [d1, d2, d3] }
  | _ => none }
def GivePlaysWrongFalsely : Prop := givePlaysRow.holds Try.pinned (OpenSpec.ofChange givePlaysWrong)

/-- 'allotmentlaw18.AdoptTwo': WHATEVER THE INPUT: true; the input reads as it did. -/
def adoptTwoSpec : ChangeSpec := { name := "adoptTwo", fn := fun _ => fun
  | [d1, d2, d3] => { results := [.lit (.bool true)], args := [d1, d2, d3] }
  | _ => none }
def adoptTwoRow : OpenClaim := { program := "ytbehnodllajnjaa", sum := "13b94d744f3eaab57f53c3e12cc159ffd289c92cbd969a84138436c809bd2d12", func := "allotment/allotmentlaw18.AdoptTwo", spec := "adoptTwo", apart := false }
def AdoptTwoSaid : Prop := adoptTwoRow.holds Try.pinned (OpenSpec.ofChange adoptTwoSpec)

/-- ITS FALSE NEIGHBOUR: 'it returns false'. Refute it at one input. -/
def adoptTwoWrong : ChangeSpec := { name := "adoptTwo", fn := fun _ => fun
  | [d1, d2, d3] => { results := [.lit (.bool false)], args := [d1, d2, d3] }
  | _ => none }
def AdoptTwoWrongFalsely : Prop := adoptTwoRow.holds Try.pinned (OpenSpec.ofChange adoptTwoWrong)

/-- 'allotmentlaw18.AdoptStates': WHATEVER THE INPUT: true; the input reads as it did. -/
def adoptStatesSpec : ChangeSpec := { name := "adoptStates", fn := fun _ => fun
  | [d1, d2, d3] => { results := [.lit (.bool true)], args := [d1, d2, d3] }
  | _ => none }
def adoptStatesRow : OpenClaim := { program := "ytbehnodllajnjaa", sum := "13b94d744f3eaab57f53c3e12cc159ffd289c92cbd969a84138436c809bd2d12", func := "allotment/allotmentlaw18.AdoptStates", spec := "adoptStates", apart := false }
def AdoptStatesSaid : Prop := adoptStatesRow.holds Try.pinned (OpenSpec.ofChange adoptStatesSpec)

/-- ITS FALSE NEIGHBOUR: 'it returns false'. Refute it at one input. -/
def adoptStatesWrong : ChangeSpec := { name := "adoptStates", fn := fun _ => fun
  | [d1, d2, d3] => { results := [.lit (.bool false)], args := [d1, d2, d3] }
  | _ => none }
def AdoptStatesWrongFalsely : Prop := adoptStatesRow.holds Try.pinned (OpenSpec.ofChange adoptStatesWrong)

/-- 'allotmentlaw18.AdoptPlays': WHATEVER THE INPUT: true; the input reads as it did. -/
def adoptPlaysSpec : ChangeSpec := { name := "adoptPlays", fn := fun _ => fun
  | [d1, d2, d3] => { results := [.lit (.bool true)], args := [d1, d2, d3] }
  | _ => none }
def adoptPlaysRow : OpenClaim := { program := "ytbehnodllajnjaa", sum := "13b94d744f3eaab57f53c3e12cc159ffd289c92cbd969a84138436c809bd2d12", func := "allotment/allotmentlaw18.AdoptPlays", spec := "adoptPlays", apart := false }
def AdoptPlaysSaid : Prop := adoptPlaysRow.holds Try.pinned (OpenSpec.ofChange adoptPlaysSpec)

/-- ITS FALSE NEIGHBOUR: 'it returns false'. Refute it at one input. -/
def adoptPlaysWrong : ChangeSpec := { name := "adoptPlays", fn := fun _ => fun
  | [d1, d2, d3] => { results := [.lit (.bool false)], args := [d1, d2, d3] }
  | _ => none }
def AdoptPlaysWrongFalsely : Prop := adoptPlaysRow.holds Try.pinned (OpenSpec.ofChange adoptPlaysWrong)

/-- 'allotmentlaw13.SeekOwn': WHATEVER THE INPUT: true; the input reads as it did. -/
def seekOwnSpec : ChangeSpec := { name := "seekOwn", fn := fun _ => fun
  | [d1, d2, d3] => { results := [.lit (.bool true)], args := [d1, d2, d3] }
  | _ => none }
def seekOwnRow : OpenClaim := { program := "ytbehnodllajnjaa", sum := "13b94d744f3eaab57f53c3e12cc159ffd289c92cbd969a84138436c809bd2d12", func := "allotment/allotmentlaw13.SeekOwn", spec := "seekOwn", unfollowed := true, recurses := true, apart := false }
def SeekOwnSaid : Prop := seekOwnRow.holds Try.pinned (OpenSpec.ofChange seekOwnSpec)

/-- ITS FALSE NEIGHBOUR: 'it returns false'. Refute it at one input. -/
def seekOwnWrong : ChangeSpec := { name := "seekOwn", fn := fun _ => fun
  | [d1, d2, d3] => { results := [.lit (.bool false)], args := [d1, d2, d3] }
  | _ => none }
def SeekOwnWrongFalsely : Prop := seekOwnRow.holds Try.pinned (OpenSpec.ofChange seekOwnWrong)

/- THE SECOND FORM. 'bulk': how many values and letters a reading holds, each counted each time it is reached (what is shared counts as often as it is met; a slice's spare places count too). A statement '..UptoSaid' is the law's where the arguments, and the package variables that the reading takes, are together of bulk at most 1048576: NARROWER than '..Said'. Prove '..Said' where nothing that the law and all that it calls make is longer than what came in: it says more and counts as full. Else prove '..UptoSaid'. A law counts once. -/
mutual
def uptoBulk {H : Type} : DataW H → Nat
  | .lit (.string bytes) => bytes.length + 1
  | .lit _ => 1
  | .nil => 1
  | .ptr d => uptoBulk d + 1
  | .slice elems spare => uptoBulkAll elems + uptoBulkAll spare + 1
  | .agg parts => uptoBulkAll parts + 1
  | .iface _ d => uptoBulk d + 1
  | .map entries => uptoBulkEntries entries + 1
  | .held _ => 1
def uptoBulkAll {H : Type} : List (DataW H) → Nat
  | [] => 0
  | d :: r => uptoBulk d + uptoBulkAll r
def uptoBulkEntries {H : Type} : List (Lit × DataW H) → Nat
  | [] => 0
  | x :: r => uptoBulkEntry x + uptoBulkEntries r
def uptoBulkEntry {H : Type} : Lit × DataW H → Nat
  | (.string bytes, d) => bytes.length + uptoBulk d + 1
  | (_, d) => uptoBulk d + 1
 end
def uptoSmall : (H : Type) → List (DataW H) → Bool := fun _ ds => decide (uptoBulkAll ds ≤ 1048576)
def OpenSpec.upto (s : _root_.Go.ChangeSpec) : _root_.Go.OpenSpec := { _root_.Go.OpenSpec.ofChange s with cond := some uptoSmall }

/-- 'allotmentlaw14.RunRows', WHERE WHAT IT READS IS OF BULK AT MOST 1048576: true; the input reads as it did. -/
def runRowsUptoRow : OpenClaim := { program := "ytbehnodllajnjaa", sum := "13b94d744f3eaab57f53c3e12cc159ffd289c92cbd969a84138436c809bd2d12", func := "allotment/allotmentlaw14.RunRows", spec := "runRows", apart := false, narrowed := true }
def RunRowsUptoSaid : Prop := runRowsUptoRow.holds Try.pinned (OpenSpec.upto runRowsSpec)

/-- 'allotmentlaw14.RunTwo', WHERE WHAT IT READS IS OF BULK AT MOST 1048576: true; the input reads as it did. -/
def runTwoUptoRow : OpenClaim := { program := "ytbehnodllajnjaa", sum := "13b94d744f3eaab57f53c3e12cc159ffd289c92cbd969a84138436c809bd2d12", func := "allotment/allotmentlaw14.RunTwo", spec := "runTwo", apart := false, narrowed := true }
def RunTwoUptoSaid : Prop := runTwoUptoRow.holds Try.pinned (OpenSpec.upto runTwoSpec)

/-- 'allotmentlaw16.GiveTwo', WHERE WHAT IT READS IS OF BULK AT MOST 1048576: true; the input reads as it did. -/
def giveTwoUptoRow : OpenClaim := { program := "ytbehnodllajnjaa", sum := "13b94d744f3eaab57f53c3e12cc159ffd289c92cbd969a84138436c809bd2d12", func := "allotment/allotmentlaw16.GiveTwo", spec := "giveTwo", apart := false, narrowed := true }
def GiveTwoUptoSaid : Prop := giveTwoUptoRow.holds Try.pinned (OpenSpec.upto giveTwoSpec)

/-- 'allotmentlaw16.GiveRemote', WHERE WHAT IT READS IS OF BULK AT MOST 1048576: true; the input reads as it did. -/
def giveRemoteUptoRow : OpenClaim := { program := "ytbehnodllajnjaa", sum := "13b94d744f3eaab57f53c3e12cc159ffd289c92cbd969a84138436c809bd2d12", func := "allotment/allotmentlaw16.GiveRemote", spec := "giveRemote", apart := false, narrowed := true }
def GiveRemoteUptoSaid : Prop := giveRemoteUptoRow.holds Try.pinned (OpenSpec.upto giveRemoteSpec)

/-- 'allotmentlaw14.RunSound', WHERE WHAT IT READS IS OF BULK AT MOST 1048576: true; the input reads as it did. -/
def runSoundUptoRow : OpenClaim := { program := "ytbehnodllajnjaa", sum := "13b94d744f3eaab57f53c3e12cc159ffd289c92cbd969a84138436c809bd2d12", func := "allotment/allotmentlaw14.RunSound", spec := "runSound", apart := false, narrowed := true }
def RunSoundUptoSaid : Prop := runSoundUptoRow.holds Try.pinned (OpenSpec.upto runSoundSpec)

/-- 'allotmentlaw16.GiveAll', WHERE WHAT IT READS IS OF BULK AT MOST 1048576: true; the input reads as it did. -/
def giveAllUptoRow : OpenClaim := { program := "ytbehnodllajnjaa", sum := "13b94d744f3eaab57f53c3e12cc159ffd289c92cbd969a84138436c809bd2d12", func := "allotment/allotmentlaw16.GiveAll", spec := "giveAll", apart := false, narrowed := true }
def GiveAllUptoSaid : Prop := giveAllUptoRow.holds Try.pinned (OpenSpec.upto giveAllSpec)

/-- 'allotmentlaw14.RunPlays', WHERE WHAT IT READS IS OF BULK AT MOST 1048576: true; the input reads as it did. -/
def runPlaysUptoRow : OpenClaim := { program := "ytbehnodllajnjaa", sum := "13b94d744f3eaab57f53c3e12cc159ffd289c92cbd969a84138436c809bd2d12", func := "allotment/allotmentlaw14.RunPlays", spec := "runPlays", apart := false, narrowed := true }
def RunPlaysUptoSaid : Prop := runPlaysUptoRow.holds Try.pinned (OpenSpec.upto runPlaysSpec)

/-- 'allotmentlaw16.GivePlays', WHERE WHAT IT READS IS OF BULK AT MOST 1048576: true; the input reads as it did. -/
def givePlaysUptoRow : OpenClaim := { program := "ytbehnodllajnjaa", sum := "13b94d744f3eaab57f53c3e12cc159ffd289c92cbd969a84138436c809bd2d12", func := "allotment/allotmentlaw16.GivePlays", spec := "givePlays", apart := false, narrowed := true }
def GivePlaysUptoSaid : Prop := givePlaysUptoRow.holds Try.pinned (OpenSpec.upto givePlaysSpec)

/-- 'allotmentlaw18.AdoptTwo', WHERE WHAT IT READS IS OF BULK AT MOST 1048576: true; the input reads as it did. -/
def adoptTwoUptoRow : OpenClaim := { program := "ytbehnodllajnjaa", sum := "13b94d744f3eaab57f53c3e12cc159ffd289c92cbd969a84138436c809bd2d12", func := "allotment/allotmentlaw18.AdoptTwo", spec := "adoptTwo", apart := false, narrowed := true }
def AdoptTwoUptoSaid : Prop := adoptTwoUptoRow.holds Try.pinned (OpenSpec.upto adoptTwoSpec)

/-- 'allotmentlaw18.AdoptStates', WHERE WHAT IT READS IS OF BULK AT MOST 1048576: true; the input reads as it did. -/
def adoptStatesUptoRow : OpenClaim := { program := "ytbehnodllajnjaa", sum := "13b94d744f3eaab57f53c3e12cc159ffd289c92cbd969a84138436c809bd2d12", func := "allotment/allotmentlaw18.AdoptStates", spec := "adoptStates", apart := false, narrowed := true }
def AdoptStatesUptoSaid : Prop := adoptStatesUptoRow.holds Try.pinned (OpenSpec.upto adoptStatesSpec)

/-- 'allotmentlaw18.AdoptPlays', WHERE WHAT IT READS IS OF BULK AT MOST 1048576: true; the input reads as it did. -/
def adoptPlaysUptoRow : OpenClaim := { program := "ytbehnodllajnjaa", sum := "13b94d744f3eaab57f53c3e12cc159ffd289c92cbd969a84138436c809bd2d12", func := "allotment/allotmentlaw18.AdoptPlays", spec := "adoptPlays", apart := false, narrowed := true }
def AdoptPlaysUptoSaid : Prop := adoptPlaysUptoRow.holds Try.pinned (OpenSpec.upto adoptPlaysSpec)

/-- 'allotmentlaw13.SeekOwn', WHERE WHAT IT READS IS OF BULK AT MOST 1048576: true; the input reads as it did. -/
def seekOwnUptoRow : OpenClaim := { program := "ytbehnodllajnjaa", sum := "13b94d744f3eaab57f53c3e12cc159ffd289c92cbd969a84138436c809bd2d12", func := "allotment/allotmentlaw13.SeekOwn", spec := "seekOwn", unfollowed := true, recurses := true, apart := false, narrowed := true }
def SeekOwnUptoSaid : Prop := seekOwnUptoRow.holds Try.pinned (OpenSpec.upto seekOwnSpec)

end Rows
end Go.Proofs.Ytbehnodllajnjaa
