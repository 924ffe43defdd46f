/-
  No cell of these rows narrows 'for every input' (looked for: loops, veiled, ifaces, maps, wideKeys, modest, calm, conditions, laid).
  DERIVED. THE GIVEN ROWS OF THIS SEAT. 25 by the template 'for every input the law returns true; each argument reads behind the call as it read before'; 0 by the template 'total and deterministic' (their statements: YtfapipblclikbaaTotals.lean).
  GIVEN WITH THE SEED: the statements are not yours to turn. If you find one false, say at which input.
  Laid BY PROGRAM, IN A SANDBOX (cutbox-rows.mjs): the forced cells as the released guide's own fill.sh prints them over the translation c61f42acb14e6a9b… (all of the seat's roots in one cut). By AI agents, Wed Nov 11 2026. No macro, syntax, notation, axiom, sorry.
-/
import Derived.Test.YtfapipblclikbaaChecked
import GoSem.Claim
import GoSem.ClaimJoined
import GoSem.ClaimMapViews
import Derived.JoinedTies
import Derived.KernelRfl
namespace Go.Proofs.Ytfapipblclikbaa
/- THE CELL 'sum', in the pinned program and in every row, IS THE sha256 OF THE DUMP (.gsa) THAT YtfapipblclikbaaProg.lean LOADS. Nothing in Lean hashes anything: it is a label: what it is worth is what the hold of that sum in a sandbox is worth. -/
noncomputable def Try.pinned : Pinned := { name := "ytfapipblclikbaa", sum := "c61f42acb14e6a9b1644b75ebcec2e5b44f28ce321e38477436a22cfe14869e2", checked := Try.checked }
namespace Rows
def none {H : Type} : Left H := { results := [], args := [] }

/-- 'allotmentlaw2.WordsCounts': WHATEVER THE INPUT: true; the input reads as it did. -/
def wordsCountsSpec : ChangeSpec := { name := "wordsCounts", fn := fun _ => fun
  | [d1, d2] => { results := [.lit (.bool true)], args := [d1, d2] }
  | _ => none }
def wordsCountsRow : OpenClaim := { program := "ytfapipblclikbaa", sum := "c61f42acb14e6a9b1644b75ebcec2e5b44f28ce321e38477436a22cfe14869e2", func := "allotment/allotmentlaw2.WordsCounts", spec := "wordsCounts", apart := false }
def WordsCountsSaid : Prop := wordsCountsRow.holds Try.pinned (OpenSpec.ofChange wordsCountsSpec)

/-- ITS FALSE NEIGHBOUR: 'it returns false'. Refute it at one input. -/
def wordsCountsWrong : ChangeSpec := { name := "wordsCounts", fn := fun _ => fun
  | [d1, d2] => { results := [.lit (.bool false)], args := [d1, d2] }
  | _ => none }
def WordsCountsWrongFalsely : Prop := wordsCountsRow.holds Try.pinned (OpenSpec.ofChange wordsCountsWrong)

/-- 'allotmentlaw2.WordsGuards': WHATEVER THE INPUT: true; the input reads as it did. -/
def wordsGuardsSpec : ChangeSpec := { name := "wordsGuards", fn := fun _ => fun
  | [d1, d2, d3] => { results := [.lit (.bool true)], args := [d1, d2, d3] }
  | _ => none }
def wordsGuardsRow : OpenClaim := { program := "ytfapipblclikbaa", sum := "c61f42acb14e6a9b1644b75ebcec2e5b44f28ce321e38477436a22cfe14869e2", func := "allotment/allotmentlaw2.WordsGuards", spec := "wordsGuards", unfollowed := true, recurses := true, apart := false }
def WordsGuardsSaid : Prop := wordsGuardsRow.holds Try.pinned (OpenSpec.ofChange wordsGuardsSpec)

/-- ITS FALSE NEIGHBOUR: 'it returns false'. Refute it at one input. -/
def wordsGuardsWrong : ChangeSpec := { name := "wordsGuards", fn := fun _ => fun
  | [d1, d2, d3] => { results := [.lit (.bool false)], args := [d1, d2, d3] }
  | _ => none }
def WordsGuardsWrongFalsely : Prop := wordsGuardsRow.holds Try.pinned (OpenSpec.ofChange wordsGuardsWrong)

/-- 'allotmentlaw2.WordsOne': WHATEVER THE INPUT: true; the input reads as it did. -/
def wordsOneSpec : ChangeSpec := { name := "wordsOne", fn := fun _ => fun
  | [d1, d2] => { results := [.lit (.bool true)], args := [d1, d2] }
  | _ => none }
def wordsOneRow : OpenClaim := { program := "ytfapipblclikbaa", sum := "c61f42acb14e6a9b1644b75ebcec2e5b44f28ce321e38477436a22cfe14869e2", func := "allotment/allotmentlaw2.WordsOne", spec := "wordsOne", apart := false }
def WordsOneSaid : Prop := wordsOneRow.holds Try.pinned (OpenSpec.ofChange wordsOneSpec)

/-- ITS FALSE NEIGHBOUR: 'it returns false'. Refute it at one input. -/
def wordsOneWrong : ChangeSpec := { name := "wordsOne", fn := fun _ => fun
  | [d1, d2] => { results := [.lit (.bool false)], args := [d1, d2] }
  | _ => none }
def WordsOneWrongFalsely : Prop := wordsOneRow.holds Try.pinned (OpenSpec.ofChange wordsOneWrong)

/-- 'allotmentlaw2.WordsKnown': WHATEVER THE INPUT: true; the input reads as it did. -/
def wordsKnownSpec : ChangeSpec := { name := "wordsKnown", fn := fun _ => fun
  | [] => { results := [.lit (.bool true)], args := [] }
  | _ => none }
def wordsKnownRow : OpenClaim := { program := "ytfapipblclikbaa", sum := "c61f42acb14e6a9b1644b75ebcec2e5b44f28ce321e38477436a22cfe14869e2", func := "allotment/allotmentlaw2.WordsKnown", spec := "wordsKnown", unfollowed := true, recurses := true, apart := false }
def WordsKnownSaid : Prop := wordsKnownRow.holds Try.pinned (OpenSpec.ofChange wordsKnownSpec)

/-- ITS FALSE NEIGHBOUR: 'it returns false'. Refute it at one input. -/
def wordsKnownWrong : ChangeSpec := { name := "wordsKnown", fn := fun _ => fun
  | [] => { results := [.lit (.bool false)], args := [] }
  | _ => none }
def WordsKnownWrongFalsely : Prop := wordsKnownRow.holds Try.pinned (OpenSpec.ofChange wordsKnownWrong)

/-- 'allotmentlaw2.WordsPlays': WHATEVER THE INPUT: true; the input reads as it did. -/
def wordsPlaysSpec : ChangeSpec := { name := "wordsPlays", fn := fun _ => fun
  | [d1, d2] => { results := [.lit (.bool true)], args := [d1, d2] }
  | _ => none }
def wordsPlaysRow : OpenClaim := { program := "ytfapipblclikbaa", sum := "c61f42acb14e6a9b1644b75ebcec2e5b44f28ce321e38477436a22cfe14869e2", func := "allotment/allotmentlaw2.WordsPlays", spec := "wordsPlays", unfollowed := true, recurses := true, apart := false }
def WordsPlaysSaid : Prop := wordsPlaysRow.holds Try.pinned (OpenSpec.ofChange wordsPlaysSpec)

/-- ITS FALSE NEIGHBOUR: 'it returns false'. Refute it at one input. -/
def wordsPlaysWrong : ChangeSpec := { name := "wordsPlays", fn := fun _ => fun
  | [d1, d2] => { results := [.lit (.bool false)], args := [d1, d2] }
  | _ => none }
def WordsPlaysWrongFalsely : Prop := wordsPlaysRow.holds Try.pinned (OpenSpec.ofChange wordsPlaysWrong)

/-- 'allotmentlaw10.PageTwo': WHATEVER THE INPUT: true; the input reads as it did. -/
def pageTwoSpec : ChangeSpec := { name := "pageTwo", fn := fun _ => fun
  | [d1, d2, d3] => { results := [.lit (.bool true)], args := [d1, d2, d3] }
  | _ => none }
def pageTwoRow : OpenClaim := { program := "ytfapipblclikbaa", sum := "c61f42acb14e6a9b1644b75ebcec2e5b44f28ce321e38477436a22cfe14869e2", func := "allotment/allotmentlaw10.PageTwo", spec := "pageTwo", apart := false }
def PageTwoSaid : Prop := pageTwoRow.holds Try.pinned (OpenSpec.ofChange pageTwoSpec)

/-- ITS FALSE NEIGHBOUR: 'it returns false'. Refute it at one input. -/
def pageTwoWrong : ChangeSpec := { name := "pageTwo", fn := fun _ => fun
  | [d1, d2, d3] => { results := [.lit (.bool false)], args := [d1, d2, d3] }
  | _ => none }
def PageTwoWrongFalsely : Prop := pageTwoRow.holds Try.pinned (OpenSpec.ofChange pageTwoWrong)

/-- 'allotmentlaw10.PageMany': WHATEVER THE INPUT: true; the input reads as it did. -/
def pageManySpec : ChangeSpec := { name := "pageMany", fn := fun _ => fun
  | [d1, d2, d3] => { results := [.lit (.bool true)], args := [d1, d2, d3] }
  | _ => none }
def pageManyRow : OpenClaim := { program := "ytfapipblclikbaa", sum := "c61f42acb14e6a9b1644b75ebcec2e5b44f28ce321e38477436a22cfe14869e2", func := "allotment/allotmentlaw10.PageMany", spec := "pageMany", apart := false }
def PageManySaid : Prop := pageManyRow.holds Try.pinned (OpenSpec.ofChange pageManySpec)

/-- ITS FALSE NEIGHBOUR: 'it returns false'. Refute it at one input. -/
def pageManyWrong : ChangeSpec := { name := "pageMany", fn := fun _ => fun
  | [d1, d2, d3] => { results := [.lit (.bool false)], args := [d1, d2, d3] }
  | _ => none }
def PageManyWrongFalsely : Prop := pageManyRow.holds Try.pinned (OpenSpec.ofChange pageManyWrong)

/-- 'allotmentlaw10.PageTurns': WHATEVER THE INPUT: true; the input reads as it did. -/
def pageTurnsSpec : ChangeSpec := { name := "pageTurns", fn := fun _ => fun
  | [d1, d2, d3] => { results := [.lit (.bool true)], args := [d1, d2, d3] }
  | _ => none }
def pageTurnsRow : OpenClaim := { program := "ytfapipblclikbaa", sum := "c61f42acb14e6a9b1644b75ebcec2e5b44f28ce321e38477436a22cfe14869e2", func := "allotment/allotmentlaw10.PageTurns", spec := "pageTurns", apart := false }
def PageTurnsSaid : Prop := pageTurnsRow.holds Try.pinned (OpenSpec.ofChange pageTurnsSpec)

/-- ITS FALSE NEIGHBOUR: 'it returns false'. Refute it at one input. -/
def pageTurnsWrong : ChangeSpec := { name := "pageTurns", fn := fun _ => fun
  | [d1, d2, d3] => { results := [.lit (.bool false)], args := [d1, d2, d3] }
  | _ => none }
def PageTurnsWrongFalsely : Prop := pageTurnsRow.holds Try.pinned (OpenSpec.ofChange pageTurnsWrong)

/-- 'allotmentlaw10.PageFirst': WHATEVER THE INPUT: true; the input reads as it did. -/
def pageFirstSpec : ChangeSpec := { name := "pageFirst", fn := fun _ => fun
  | [d1, d2, d3] => { results := [.lit (.bool true)], args := [d1, d2, d3] }
  | _ => none }
def pageFirstRow : OpenClaim := { program := "ytfapipblclikbaa", sum := "c61f42acb14e6a9b1644b75ebcec2e5b44f28ce321e38477436a22cfe14869e2", func := "allotment/allotmentlaw10.PageFirst", spec := "pageFirst", apart := false }
def PageFirstSaid : Prop := pageFirstRow.holds Try.pinned (OpenSpec.ofChange pageFirstSpec)

/-- ITS FALSE NEIGHBOUR: 'it returns false'. Refute it at one input. -/
def pageFirstWrong : ChangeSpec := { name := "pageFirst", fn := fun _ => fun
  | [d1, d2, d3] => { results := [.lit (.bool false)], args := [d1, d2, d3] }
  | _ => none }
def PageFirstWrongFalsely : Prop := pageFirstRow.holds Try.pinned (OpenSpec.ofChange pageFirstWrong)

/-- 'allotmentlaw10.PageClaims': WHATEVER THE INPUT: true; the input reads as it did. -/
def pageClaimsSpec : ChangeSpec := { name := "pageClaims", fn := fun _ => fun
  | [d1, d2, d3] => { results := [.lit (.bool true)], args := [d1, d2, d3] }
  | _ => none }
def pageClaimsRow : OpenClaim := { program := "ytfapipblclikbaa", sum := "c61f42acb14e6a9b1644b75ebcec2e5b44f28ce321e38477436a22cfe14869e2", func := "allotment/allotmentlaw10.PageClaims", spec := "pageClaims", apart := false }
def PageClaimsSaid : Prop := pageClaimsRow.holds Try.pinned (OpenSpec.ofChange pageClaimsSpec)

/-- ITS FALSE NEIGHBOUR: 'it returns false'. Refute it at one input. -/
def pageClaimsWrong : ChangeSpec := { name := "pageClaims", fn := fun _ => fun
  | [d1, d2, d3] => { results := [.lit (.bool false)], args := [d1, d2, d3] }
  | _ => none }
def PageClaimsWrongFalsely : Prop := pageClaimsRow.holds Try.pinned (OpenSpec.ofChange pageClaimsWrong)

/-- 'allotmentlaw11.StripBack': WHATEVER THE INPUT: true; the input reads as it did. -/
def stripBackSpec : ChangeSpec := { name := "stripBack", fn := fun _ => fun
  | [d1, d2] => { results := [.lit (.bool true)], args := [d1, d2] }
  | _ => none }
def stripBackRow : OpenClaim := { program := "ytfapipblclikbaa", sum := "c61f42acb14e6a9b1644b75ebcec2e5b44f28ce321e38477436a22cfe14869e2", func := "allotment/allotmentlaw11.StripBack", spec := "stripBack", apart := false }
def StripBackSaid : Prop := stripBackRow.holds Try.pinned (OpenSpec.ofChange stripBackSpec)

/-- ITS FALSE NEIGHBOUR: 'it returns false'. Refute it at one input. -/
def stripBackWrong : ChangeSpec := { name := "stripBack", fn := fun _ => fun
  | [d1, d2] => { results := [.lit (.bool false)], args := [d1, d2] }
  | _ => none }
def StripBackWrongFalsely : Prop := stripBackRow.holds Try.pinned (OpenSpec.ofChange stripBackWrong)

/-- 'allotmentlaw11.StripMany': WHATEVER THE INPUT: true; the input reads as it did. -/
def stripManySpec : ChangeSpec := { name := "stripMany", fn := fun _ => fun
  | [d1, d2, d3] => { results := [.lit (.bool true)], args := [d1, d2, d3] }
  | _ => none }
def stripManyRow : OpenClaim := { program := "ytfapipblclikbaa", sum := "c61f42acb14e6a9b1644b75ebcec2e5b44f28ce321e38477436a22cfe14869e2", func := "allotment/allotmentlaw11.StripMany", spec := "stripMany", apart := false }
def StripManySaid : Prop := stripManyRow.holds Try.pinned (OpenSpec.ofChange stripManySpec)

/-- ITS FALSE NEIGHBOUR: 'it returns false'. Refute it at one input. -/
def stripManyWrong : ChangeSpec := { name := "stripMany", fn := fun _ => fun
  | [d1, d2, d3] => { results := [.lit (.bool false)], args := [d1, d2, d3] }
  | _ => none }
def StripManyWrongFalsely : Prop := stripManyRow.holds Try.pinned (OpenSpec.ofChange stripManyWrong)

/-- 'allotmentlaw12.BindPlays': WHATEVER THE INPUT: true; the input reads as it did. -/
def bindPlaysSpec : ChangeSpec := { name := "bindPlays", fn := fun _ => fun
  | [d1, d2, d3] => { results := [.lit (.bool true)], args := [d1, d2, d3] }
  | _ => none }
def bindPlaysRow : OpenClaim := { program := "ytfapipblclikbaa", sum := "c61f42acb14e6a9b1644b75ebcec2e5b44f28ce321e38477436a22cfe14869e2", func := "allotment/allotmentlaw12.BindPlays", spec := "bindPlays", apart := false }
def BindPlaysSaid : Prop := bindPlaysRow.holds Try.pinned (OpenSpec.ofChange bindPlaysSpec)

/-- ITS FALSE NEIGHBOUR: 'it returns false'. Refute it at one input. -/
def bindPlaysWrong : ChangeSpec := { name := "bindPlays", fn := fun _ => fun
  | [d1, d2, d3] => { results := [.lit (.bool false)], args := [d1, d2, d3] }
  | _ => none }
def BindPlaysWrongFalsely : Prop := bindPlaysRow.holds Try.pinned (OpenSpec.ofChange bindPlaysWrong)

/-- 'allotmentlaw8.MagBoth': WHATEVER THE INPUT: true; the input reads as it did. -/
def magBothSpec : ChangeSpec := { name := "magBoth", fn := fun _ => fun
  | [d1, d2, d3] => { results := [.lit (.bool true)], args := [d1, d2, d3] }
  | _ => none }
def magBothRow : OpenClaim := { program := "ytfapipblclikbaa", sum := "c61f42acb14e6a9b1644b75ebcec2e5b44f28ce321e38477436a22cfe14869e2", func := "allotment/allotmentlaw8.MagBoth", spec := "magBoth", apart := false }
def MagBothSaid : Prop := magBothRow.holds Try.pinned (OpenSpec.ofChange magBothSpec)

/-- ITS FALSE NEIGHBOUR: 'it returns false'. Refute it at one input. -/
def magBothWrong : ChangeSpec := { name := "magBoth", fn := fun _ => fun
  | [d1, d2, d3] => { results := [.lit (.bool false)], args := [d1, d2, d3] }
  | _ => none }
def MagBothWrongFalsely : Prop := magBothRow.holds Try.pinned (OpenSpec.ofChange magBothWrong)

/-- 'allotmentlaw8.MagTwo': WHATEVER THE INPUT: true; the input reads as it did. -/
def magTwoSpec : ChangeSpec := { name := "magTwo", fn := fun _ => fun
  | [d1, d2, d3] => { results := [.lit (.bool true)], args := [d1, d2, d3] }
  | _ => none }
def magTwoRow : OpenClaim := { program := "ytfapipblclikbaa", sum := "c61f42acb14e6a9b1644b75ebcec2e5b44f28ce321e38477436a22cfe14869e2", func := "allotment/allotmentlaw8.MagTwo", spec := "magTwo", apart := false }
def MagTwoSaid : Prop := magTwoRow.holds Try.pinned (OpenSpec.ofChange magTwoSpec)

/-- ITS FALSE NEIGHBOUR: 'it returns false'. Refute it at one input. -/
def magTwoWrong : ChangeSpec := { name := "magTwo", fn := fun _ => fun
  | [d1, d2, d3] => { results := [.lit (.bool false)], args := [d1, d2, d3] }
  | _ => none }
def MagTwoWrongFalsely : Prop := magTwoRow.holds Try.pinned (OpenSpec.ofChange magTwoWrong)

/-- 'allotmentlaw8.MagTakes': WHATEVER THE INPUT: true; the input reads as it did. -/
def magTakesSpec : ChangeSpec := { name := "magTakes", fn := fun _ => fun
  | [d1, d2, d3] => { results := [.lit (.bool true)], args := [d1, d2, d3] }
  | _ => none }
def magTakesRow : OpenClaim := { program := "ytfapipblclikbaa", sum := "c61f42acb14e6a9b1644b75ebcec2e5b44f28ce321e38477436a22cfe14869e2", func := "allotment/allotmentlaw8.MagTakes", spec := "magTakes", apart := false }
def MagTakesSaid : Prop := magTakesRow.holds Try.pinned (OpenSpec.ofChange magTakesSpec)

/-- ITS FALSE NEIGHBOUR: 'it returns false'. Refute it at one input. -/
def magTakesWrong : ChangeSpec := { name := "magTakes", fn := fun _ => fun
  | [d1, d2, d3] => { results := [.lit (.bool false)], args := [d1, d2, d3] }
  | _ => none }
def MagTakesWrongFalsely : Prop := magTakesRow.holds Try.pinned (OpenSpec.ofChange magTakesWrong)

/-- 'allotmentlaw8.MagKnown': WHATEVER THE INPUT: true; the input reads as it did. -/
def magKnownSpec : ChangeSpec := { name := "magKnown", fn := fun _ => fun
  | [] => { results := [.lit (.bool true)], args := [] }
  | _ => none }
def magKnownRow : OpenClaim := { program := "ytfapipblclikbaa", sum := "c61f42acb14e6a9b1644b75ebcec2e5b44f28ce321e38477436a22cfe14869e2", func := "allotment/allotmentlaw8.MagKnown", spec := "magKnown", apart := false }
def MagKnownSaid : Prop := magKnownRow.holds Try.pinned (OpenSpec.ofChange magKnownSpec)

/-- ITS FALSE NEIGHBOUR: 'it returns false'. Refute it at one input. -/
def magKnownWrong : ChangeSpec := { name := "magKnown", fn := fun _ => fun
  | [] => { results := [.lit (.bool false)], args := [] }
  | _ => none }
def MagKnownWrongFalsely : Prop := magKnownRow.holds Try.pinned (OpenSpec.ofChange magKnownWrong)

/-- 'allotmentlaw11.StripPlays': WHATEVER THE INPUT: true; the input reads as it did. -/
def stripPlaysSpec : ChangeSpec := { name := "stripPlays", fn := fun _ => fun
  | [d1, d2, d3] => { results := [.lit (.bool true)], args := [d1, d2, d3] }
  | _ => none }
def stripPlaysRow : OpenClaim := { program := "ytfapipblclikbaa", sum := "c61f42acb14e6a9b1644b75ebcec2e5b44f28ce321e38477436a22cfe14869e2", func := "allotment/allotmentlaw11.StripPlays", spec := "stripPlays", apart := false }
def StripPlaysSaid : Prop := stripPlaysRow.holds Try.pinned (OpenSpec.ofChange stripPlaysSpec)

/-- ITS FALSE NEIGHBOUR: 'it returns false'. Refute it at one input. -/
def stripPlaysWrong : ChangeSpec := { name := "stripPlays", fn := fun _ => fun
  | [d1, d2, d3] => { results := [.lit (.bool false)], args := [d1, d2, d3] }
  | _ => none }
def StripPlaysWrongFalsely : Prop := stripPlaysRow.holds Try.pinned (OpenSpec.ofChange stripPlaysWrong)

/-- 'allotmentlaw9.SlotLoses': WHATEVER THE INPUT: true; the input reads as it did. -/
def slotLosesSpec : ChangeSpec := { name := "slotLoses", fn := fun _ => fun
  | [d1, d2] => { results := [.lit (.bool true)], args := [d1, d2] }
  | _ => none }
def slotLosesRow : OpenClaim := { program := "ytfapipblclikbaa", sum := "c61f42acb14e6a9b1644b75ebcec2e5b44f28ce321e38477436a22cfe14869e2", func := "allotment/allotmentlaw9.SlotLoses", spec := "slotLoses", apart := false }
def SlotLosesSaid : Prop := slotLosesRow.holds Try.pinned (OpenSpec.ofChange slotLosesSpec)

/-- ITS FALSE NEIGHBOUR: 'it returns false'. Refute it at one input. -/
def slotLosesWrong : ChangeSpec := { name := "slotLoses", fn := fun _ => fun
  | [d1, d2] => { results := [.lit (.bool false)], args := [d1, d2] }
  | _ => none }
def SlotLosesWrongFalsely : Prop := slotLosesRow.holds Try.pinned (OpenSpec.ofChange slotLosesWrong)

/-- 'allotmentlaw9.SlotMany': WHATEVER THE INPUT: true; the input reads as it did. -/
def slotManySpec : ChangeSpec := { name := "slotMany", fn := fun _ => fun
  | [d1, d2, d3] => { results := [.lit (.bool true)], args := [d1, d2, d3] }
  | _ => none }
def slotManyRow : OpenClaim := { program := "ytfapipblclikbaa", sum := "c61f42acb14e6a9b1644b75ebcec2e5b44f28ce321e38477436a22cfe14869e2", func := "allotment/allotmentlaw9.SlotMany", spec := "slotMany", apart := false }
def SlotManySaid : Prop := slotManyRow.holds Try.pinned (OpenSpec.ofChange slotManySpec)

/-- ITS FALSE NEIGHBOUR: 'it returns false'. Refute it at one input. -/
def slotManyWrong : ChangeSpec := { name := "slotMany", fn := fun _ => fun
  | [d1, d2, d3] => { results := [.lit (.bool false)], args := [d1, d2, d3] }
  | _ => none }
def SlotManyWrongFalsely : Prop := slotManyRow.holds Try.pinned (OpenSpec.ofChange slotManyWrong)

/-- 'allotmentlaw9.SlotFirst': WHATEVER THE INPUT: true; the input reads as it did. -/
def slotFirstSpec : ChangeSpec := { name := "slotFirst", fn := fun _ => fun
  | [d1, d2, d3] => { results := [.lit (.bool true)], args := [d1, d2, d3] }
  | _ => none }
def slotFirstRow : OpenClaim := { program := "ytfapipblclikbaa", sum := "c61f42acb14e6a9b1644b75ebcec2e5b44f28ce321e38477436a22cfe14869e2", func := "allotment/allotmentlaw9.SlotFirst", spec := "slotFirst", apart := false }
def SlotFirstSaid : Prop := slotFirstRow.holds Try.pinned (OpenSpec.ofChange slotFirstSpec)

/-- ITS FALSE NEIGHBOUR: 'it returns false'. Refute it at one input. -/
def slotFirstWrong : ChangeSpec := { name := "slotFirst", fn := fun _ => fun
  | [d1, d2, d3] => { results := [.lit (.bool false)], args := [d1, d2, d3] }
  | _ => none }
def SlotFirstWrongFalsely : Prop := slotFirstRow.holds Try.pinned (OpenSpec.ofChange slotFirstWrong)

/-- 'allotmentlaw9.SlotClaims': WHATEVER THE INPUT: true; the input reads as it did. -/
def slotClaimsSpec : ChangeSpec := { name := "slotClaims", fn := fun _ => fun
  | [d1, d2, d3] => { results := [.lit (.bool true)], args := [d1, d2, d3] }
  | _ => none }
def slotClaimsRow : OpenClaim := { program := "ytfapipblclikbaa", sum := "c61f42acb14e6a9b1644b75ebcec2e5b44f28ce321e38477436a22cfe14869e2", func := "allotment/allotmentlaw9.SlotClaims", spec := "slotClaims", apart := false }
def SlotClaimsSaid : Prop := slotClaimsRow.holds Try.pinned (OpenSpec.ofChange slotClaimsSpec)

/-- ITS FALSE NEIGHBOUR: 'it returns false'. Refute it at one input. -/
def slotClaimsWrong : ChangeSpec := { name := "slotClaims", fn := fun _ => fun
  | [d1, d2, d3] => { results := [.lit (.bool false)], args := [d1, d2, d3] }
  | _ => none }
def SlotClaimsWrongFalsely : Prop := slotClaimsRow.holds Try.pinned (OpenSpec.ofChange slotClaimsWrong)

/-- 'allotmentlaw11.StripTwo': WHATEVER THE INPUT: true; the input reads as it did. -/
def stripTwoSpec : ChangeSpec := { name := "stripTwo", fn := fun _ => fun
  | [d1, d2] => { results := [.lit (.bool true)], args := [d1, d2] }
  | _ => none }
def stripTwoRow : OpenClaim := { program := "ytfapipblclikbaa", sum := "c61f42acb14e6a9b1644b75ebcec2e5b44f28ce321e38477436a22cfe14869e2", func := "allotment/allotmentlaw11.StripTwo", spec := "stripTwo", apart := false }
def StripTwoSaid : Prop := stripTwoRow.holds Try.pinned (OpenSpec.ofChange stripTwoSpec)

/-- ITS FALSE NEIGHBOUR: 'it returns false'. Refute it at one input. -/
def stripTwoWrong : ChangeSpec := { name := "stripTwo", fn := fun _ => fun
  | [d1, d2] => { results := [.lit (.bool false)], args := [d1, d2] }
  | _ => none }
def StripTwoWrongFalsely : Prop := stripTwoRow.holds Try.pinned (OpenSpec.ofChange stripTwoWrong)

/-- 'allotmentlaw12.BindHides': WHATEVER THE INPUT: true; the input reads as it did. -/
def bindHidesSpec : ChangeSpec := { name := "bindHides", fn := fun _ => fun
  | [d1, d2] => { results := [.lit (.bool true)], args := [d1, d2] }
  | _ => none }
def bindHidesRow : OpenClaim := { program := "ytfapipblclikbaa", sum := "c61f42acb14e6a9b1644b75ebcec2e5b44f28ce321e38477436a22cfe14869e2", func := "allotment/allotmentlaw12.BindHides", spec := "bindHides", apart := false }
def BindHidesSaid : Prop := bindHidesRow.holds Try.pinned (OpenSpec.ofChange bindHidesSpec)

/-- ITS FALSE NEIGHBOUR: 'it returns false'. Refute it at one input. -/
def bindHidesWrong : ChangeSpec := { name := "bindHides", fn := fun _ => fun
  | [d1, d2] => { results := [.lit (.bool false)], args := [d1, d2] }
  | _ => none }
def BindHidesWrongFalsely : Prop := bindHidesRow.holds Try.pinned (OpenSpec.ofChange bindHidesWrong)

/-- 'allotmentlaw12.BindStrip': WHATEVER THE INPUT: true; the input reads as it did. -/
def bindStripSpec : ChangeSpec := { name := "bindStrip", fn := fun _ => fun
  | [d1, d2] => { results := [.lit (.bool true)], args := [d1, d2] }
  | _ => none }
def bindStripRow : OpenClaim := { program := "ytfapipblclikbaa", sum := "c61f42acb14e6a9b1644b75ebcec2e5b44f28ce321e38477436a22cfe14869e2", func := "allotment/allotmentlaw12.BindStrip", spec := "bindStrip", apart := false }
def BindStripSaid : Prop := bindStripRow.holds Try.pinned (OpenSpec.ofChange bindStripSpec)

/-- ITS FALSE NEIGHBOUR: 'it returns false'. Refute it at one input. -/
def bindStripWrong : ChangeSpec := { name := "bindStrip", fn := fun _ => fun
  | [d1, d2] => { results := [.lit (.bool false)], args := [d1, d2] }
  | _ => none }
def BindStripWrongFalsely : Prop := bindStripRow.holds Try.pinned (OpenSpec.ofChange bindStripWrong)

/- THE SECOND FORM. 'bulk': how many values and letters a reading holds, each counted each time it is reached (what is shared counts as often as it is met; a slice's spare places count too). A statement '..UptoSaid' is the law's where the arguments, and the package variables that the reading takes, are together of bulk at most 1048576: NARROWER than '..Said'. Prove '..Said' where nothing that the law and all that it calls make is longer than what came in: it says more and counts as full. Else prove '..UptoSaid'. A law counts once. -/
mutual
def uptoBulk {H : Type} : DataW H → Nat
  | .lit (.string bytes) => bytes.length + 1
  | .lit _ => 1
  | .nil => 1
  | .ptr d => uptoBulk d + 1
  | .slice elems spare => uptoBulkAll elems + uptoBulkAll spare + 1
  | .agg parts => uptoBulkAll parts + 1
  | .iface _ d => uptoBulk d + 1
  | .map entries => uptoBulkEntries entries + 1
  | .held _ => 1
def uptoBulkAll {H : Type} : List (DataW H) → Nat
  | [] => 0
  | d :: r => uptoBulk d + uptoBulkAll r
def uptoBulkEntries {H : Type} : List (Lit × DataW H) → Nat
  | [] => 0
  | x :: r => uptoBulkEntry x + uptoBulkEntries r
def uptoBulkEntry {H : Type} : Lit × DataW H → Nat
  | (.string bytes, d) => bytes.length + uptoBulk d + 1
  | (_, d) => uptoBulk d + 1
 end
def uptoSmall : (H : Type) → List (DataW H) → Bool := fun _ ds => decide (uptoBulkAll ds ≤ 1048576)
def OpenSpec.upto (s : _root_.Go.ChangeSpec) : _root_.Go.OpenSpec := { _root_.Go.OpenSpec.ofChange s with cond := some uptoSmall }

/-- 'allotmentlaw2.WordsCounts', WHERE WHAT IT READS IS OF BULK AT MOST 1048576: true; the input reads as it did. -/
def wordsCountsUptoRow : OpenClaim := { program := "ytfapipblclikbaa", sum := "c61f42acb14e6a9b1644b75ebcec2e5b44f28ce321e38477436a22cfe14869e2", func := "allotment/allotmentlaw2.WordsCounts", spec := "wordsCounts", apart := false, narrowed := true }
def WordsCountsUptoSaid : Prop := wordsCountsUptoRow.holds Try.pinned (OpenSpec.upto wordsCountsSpec)

/-- 'allotmentlaw2.WordsGuards', WHERE WHAT IT READS IS OF BULK AT MOST 1048576: true; the input reads as it did. -/
def wordsGuardsUptoRow : OpenClaim := { program := "ytfapipblclikbaa", sum := "c61f42acb14e6a9b1644b75ebcec2e5b44f28ce321e38477436a22cfe14869e2", func := "allotment/allotmentlaw2.WordsGuards", spec := "wordsGuards", unfollowed := true, recurses := true, apart := false, narrowed := true }
def WordsGuardsUptoSaid : Prop := wordsGuardsUptoRow.holds Try.pinned (OpenSpec.upto wordsGuardsSpec)

/-- 'allotmentlaw2.WordsOne', WHERE WHAT IT READS IS OF BULK AT MOST 1048576: true; the input reads as it did. -/
def wordsOneUptoRow : OpenClaim := { program := "ytfapipblclikbaa", sum := "c61f42acb14e6a9b1644b75ebcec2e5b44f28ce321e38477436a22cfe14869e2", func := "allotment/allotmentlaw2.WordsOne", spec := "wordsOne", apart := false, narrowed := true }
def WordsOneUptoSaid : Prop := wordsOneUptoRow.holds Try.pinned (OpenSpec.upto wordsOneSpec)

/-- 'allotmentlaw2.WordsKnown', WHERE WHAT IT READS IS OF BULK AT MOST 1048576: true; the input reads as it did. -/
def wordsKnownUptoRow : OpenClaim := { program := "ytfapipblclikbaa", sum := "c61f42acb14e6a9b1644b75ebcec2e5b44f28ce321e38477436a22cfe14869e2", func := "allotment/allotmentlaw2.WordsKnown", spec := "wordsKnown", unfollowed := true, recurses := true, apart := false, narrowed := true }
def WordsKnownUptoSaid : Prop := wordsKnownUptoRow.holds Try.pinned (OpenSpec.upto wordsKnownSpec)

/-- 'allotmentlaw2.WordsPlays', WHERE WHAT IT READS IS OF BULK AT MOST 1048576: true; the input reads as it did. -/
def wordsPlaysUptoRow : OpenClaim := { program := "ytfapipblclikbaa", sum := "c61f42acb14e6a9b1644b75ebcec2e5b44f28ce321e38477436a22cfe14869e2", func := "allotment/allotmentlaw2.WordsPlays", spec := "wordsPlays", unfollowed := true, recurses := true, apart := false, narrowed := true }
def WordsPlaysUptoSaid : Prop := wordsPlaysUptoRow.holds Try.pinned (OpenSpec.upto wordsPlaysSpec)

/-- 'allotmentlaw10.PageTwo', WHERE WHAT IT READS IS OF BULK AT MOST 1048576: true; the input reads as it did. -/
def pageTwoUptoRow : OpenClaim := { program := "ytfapipblclikbaa", sum := "c61f42acb14e6a9b1644b75ebcec2e5b44f28ce321e38477436a22cfe14869e2", func := "allotment/allotmentlaw10.PageTwo", spec := "pageTwo", apart := false, narrowed := true }
def PageTwoUptoSaid : Prop := pageTwoUptoRow.holds Try.pinned (OpenSpec.upto pageTwoSpec)

/-- 'allotmentlaw10.PageMany', WHERE WHAT IT READS IS OF BULK AT MOST 1048576: true; the input reads as it did. -/
def pageManyUptoRow : OpenClaim := { program := "ytfapipblclikbaa", sum := "c61f42acb14e6a9b1644b75ebcec2e5b44f28ce321e38477436a22cfe14869e2", func := "allotment/allotmentlaw10.PageMany", spec := "pageMany", apart := false, narrowed := true }
def PageManyUptoSaid : Prop := pageManyUptoRow.holds Try.pinned (OpenSpec.upto pageManySpec)

/-- 'allotmentlaw10.PageTurns', WHERE WHAT IT READS IS OF BULK AT MOST 1048576: true; the input reads as it did. -/
def pageTurnsUptoRow : OpenClaim := { program := "ytfapipblclikbaa", sum := "c61f42acb14e6a9b1644b75ebcec2e5b44f28ce321e38477436a22cfe14869e2", func := "allotment/allotmentlaw10.PageTurns", spec := "pageTurns", apart := false, narrowed := true }
def PageTurnsUptoSaid : Prop := pageTurnsUptoRow.holds Try.pinned (OpenSpec.upto pageTurnsSpec)

/-- 'allotmentlaw10.PageFirst', WHERE WHAT IT READS IS OF BULK AT MOST 1048576: true; the input reads as it did. -/
def pageFirstUptoRow : OpenClaim := { program := "ytfapipblclikbaa", sum := "c61f42acb14e6a9b1644b75ebcec2e5b44f28ce321e38477436a22cfe14869e2", func := "allotment/allotmentlaw10.PageFirst", spec := "pageFirst", apart := false, narrowed := true }
def PageFirstUptoSaid : Prop := pageFirstUptoRow.holds Try.pinned (OpenSpec.upto pageFirstSpec)

/-- 'allotmentlaw10.PageClaims', WHERE WHAT IT READS IS OF BULK AT MOST 1048576: true; the input reads as it did. -/
def pageClaimsUptoRow : OpenClaim := { program := "ytfapipblclikbaa", sum := "c61f42acb14e6a9b1644b75ebcec2e5b44f28ce321e38477436a22cfe14869e2", func := "allotment/allotmentlaw10.PageClaims", spec := "pageClaims", apart := false, narrowed := true }
def PageClaimsUptoSaid : Prop := pageClaimsUptoRow.holds Try.pinned (OpenSpec.upto pageClaimsSpec)

/-- 'allotmentlaw11.StripBack', WHERE WHAT IT READS IS OF BULK AT MOST 1048576: true; the input reads as it did. -/
def stripBackUptoRow : OpenClaim := { program := "ytfapipblclikbaa", sum := "c61f42acb14e6a9b1644b75ebcec2e5b44f28ce321e38477436a22cfe14869e2", func := "allotment/allotmentlaw11.StripBack", spec := "stripBack", apart := false, narrowed := true }
def StripBackUptoSaid : Prop := stripBackUptoRow.holds Try.pinned (OpenSpec.upto stripBackSpec)

/-- 'allotmentlaw11.StripMany', WHERE WHAT IT READS IS OF BULK AT MOST 1048576: true; the input reads as it did. -/
def stripManyUptoRow : OpenClaim := { program := "ytfapipblclikbaa", sum := "c61f42acb14e6a9b1644b75ebcec2e5b44f28ce321e38477436a22cfe14869e2", func := "allotment/allotmentlaw11.StripMany", spec := "stripMany", apart := false, narrowed := true }
def StripManyUptoSaid : Prop := stripManyUptoRow.holds Try.pinned (OpenSpec.upto stripManySpec)

/-- 'allotmentlaw12.BindPlays', WHERE WHAT IT READS IS OF BULK AT MOST 1048576: true; the input reads as it did. -/
def bindPlaysUptoRow : OpenClaim := { program := "ytfapipblclikbaa", sum := "c61f42acb14e6a9b1644b75ebcec2e5b44f28ce321e38477436a22cfe14869e2", func := "allotment/allotmentlaw12.BindPlays", spec := "bindPlays", apart := false, narrowed := true }
def BindPlaysUptoSaid : Prop := bindPlaysUptoRow.holds Try.pinned (OpenSpec.upto bindPlaysSpec)

/-- 'allotmentlaw8.MagBoth', WHERE WHAT IT READS IS OF BULK AT MOST 1048576: true; the input reads as it did. -/
def magBothUptoRow : OpenClaim := { program := "ytfapipblclikbaa", sum := "c61f42acb14e6a9b1644b75ebcec2e5b44f28ce321e38477436a22cfe14869e2", func := "allotment/allotmentlaw8.MagBoth", spec := "magBoth", apart := false, narrowed := true }
def MagBothUptoSaid : Prop := magBothUptoRow.holds Try.pinned (OpenSpec.upto magBothSpec)

/-- 'allotmentlaw8.MagTwo', WHERE WHAT IT READS IS OF BULK AT MOST 1048576: true; the input reads as it did. -/
def magTwoUptoRow : OpenClaim := { program := "ytfapipblclikbaa", sum := "c61f42acb14e6a9b1644b75ebcec2e5b44f28ce321e38477436a22cfe14869e2", func := "allotment/allotmentlaw8.MagTwo", spec := "magTwo", apart := false, narrowed := true }
def MagTwoUptoSaid : Prop := magTwoUptoRow.holds Try.pinned (OpenSpec.upto magTwoSpec)

/-- 'allotmentlaw8.MagTakes', WHERE WHAT IT READS IS OF BULK AT MOST 1048576: true; the input reads as it did. -/
def magTakesUptoRow : OpenClaim := { program := "ytfapipblclikbaa", sum := "c61f42acb14e6a9b1644b75ebcec2e5b44f28ce321e38477436a22cfe14869e2", func := "allotment/allotmentlaw8.MagTakes", spec := "magTakes", apart := false, narrowed := true }
def MagTakesUptoSaid : Prop := magTakesUptoRow.holds Try.pinned (OpenSpec.upto magTakesSpec)

/-- 'allotmentlaw8.MagKnown', WHERE WHAT IT READS IS OF BULK AT MOST 1048576: true; the input reads as it did. -/
def magKnownUptoRow : OpenClaim := { program := "ytfapipblclikbaa", sum := "c61f42acb14e6a9b1644b75ebcec2e5b44f28ce321e38477436a22cfe14869e2", func := "allotment/allotmentlaw8.MagKnown", spec := "magKnown", apart := false, narrowed := true }
def MagKnownUptoSaid : Prop := magKnownUptoRow.holds Try.pinned (OpenSpec.upto magKnownSpec)

/-- 'allotmentlaw11.StripPlays', WHERE WHAT IT READS IS OF BULK AT MOST 1048576: true; the input reads as it did. -/
def stripPlaysUptoRow : OpenClaim := { program := "ytfapipblclikbaa", sum := "c61f42acb14e6a9b1644b75ebcec2e5b44f28ce321e38477436a22cfe14869e2", func := "allotment/allotmentlaw11.StripPlays", spec := "stripPlays", apart := false, narrowed := true }
def StripPlaysUptoSaid : Prop := stripPlaysUptoRow.holds Try.pinned (OpenSpec.upto stripPlaysSpec)

/-- 'allotmentlaw9.SlotLoses', WHERE WHAT IT READS IS OF BULK AT MOST 1048576: true; the input reads as it did. -/
def slotLosesUptoRow : OpenClaim := { program := "ytfapipblclikbaa", sum := "c61f42acb14e6a9b1644b75ebcec2e5b44f28ce321e38477436a22cfe14869e2", func := "allotment/allotmentlaw9.SlotLoses", spec := "slotLoses", apart := false, narrowed := true }
def SlotLosesUptoSaid : Prop := slotLosesUptoRow.holds Try.pinned (OpenSpec.upto slotLosesSpec)

/-- 'allotmentlaw9.SlotMany', WHERE WHAT IT READS IS OF BULK AT MOST 1048576: true; the input reads as it did. -/
def slotManyUptoRow : OpenClaim := { program := "ytfapipblclikbaa", sum := "c61f42acb14e6a9b1644b75ebcec2e5b44f28ce321e38477436a22cfe14869e2", func := "allotment/allotmentlaw9.SlotMany", spec := "slotMany", apart := false, narrowed := true }
def SlotManyUptoSaid : Prop := slotManyUptoRow.holds Try.pinned (OpenSpec.upto slotManySpec)

/-- 'allotmentlaw9.SlotFirst', WHERE WHAT IT READS IS OF BULK AT MOST 1048576: true; the input reads as it did. -/
def slotFirstUptoRow : OpenClaim := { program := "ytfapipblclikbaa", sum := "c61f42acb14e6a9b1644b75ebcec2e5b44f28ce321e38477436a22cfe14869e2", func := "allotment/allotmentlaw9.SlotFirst", spec := "slotFirst", apart := false, narrowed := true }
def SlotFirstUptoSaid : Prop := slotFirstUptoRow.holds Try.pinned (OpenSpec.upto slotFirstSpec)

/-- 'allotmentlaw9.SlotClaims', WHERE WHAT IT READS IS OF BULK AT MOST 1048576: true; the input reads as it did. -/
def slotClaimsUptoRow : OpenClaim := { program := "ytfapipblclikbaa", sum := "c61f42acb14e6a9b1644b75ebcec2e5b44f28ce321e38477436a22cfe14869e2", func := "allotment/allotmentlaw9.SlotClaims", spec := "slotClaims", apart := false, narrowed := true }
def SlotClaimsUptoSaid : Prop := slotClaimsUptoRow.holds Try.pinned (OpenSpec.upto slotClaimsSpec)

/-- 'allotmentlaw11.StripTwo', WHERE WHAT IT READS IS OF BULK AT MOST 1048576: true; the input reads as it did. -/
def stripTwoUptoRow : OpenClaim := { program := "ytfapipblclikbaa", sum := "c61f42acb14e6a9b1644b75ebcec2e5b44f28ce321e38477436a22cfe14869e2", func := "allotment/allotmentlaw11.StripTwo", spec := "stripTwo", apart := false, narrowed := true }
def StripTwoUptoSaid : Prop := stripTwoUptoRow.holds Try.pinned (OpenSpec.upto stripTwoSpec)

/-- 'allotmentlaw12.BindHides', WHERE WHAT IT READS IS OF BULK AT MOST 1048576: true; the input reads as it did. -/
def bindHidesUptoRow : OpenClaim := { program := "ytfapipblclikbaa", sum := "c61f42acb14e6a9b1644b75ebcec2e5b44f28ce321e38477436a22cfe14869e2", func := "allotment/allotmentlaw12.BindHides", spec := "bindHides", apart := false, narrowed := true }
def BindHidesUptoSaid : Prop := bindHidesUptoRow.holds Try.pinned (OpenSpec.upto bindHidesSpec)

/-- 'allotmentlaw12.BindStrip', WHERE WHAT IT READS IS OF BULK AT MOST 1048576: true; the input reads as it did. -/
def bindStripUptoRow : OpenClaim := { program := "ytfapipblclikbaa", sum := "c61f42acb14e6a9b1644b75ebcec2e5b44f28ce321e38477436a22cfe14869e2", func := "allotment/allotmentlaw12.BindStrip", spec := "bindStrip", apart := false, narrowed := true }
def BindStripUptoSaid : Prop := bindStripUptoRow.holds Try.pinned (OpenSpec.upto bindStripSpec)

end Rows
end Go.Proofs.Ytfapipblclikbaa
