/-
  No cell of these rows narrows 'for every input' (looked for: loops, veiled, ifaces, maps, wideKeys, modest, calm, conditions, laid).
  DERIVED. THE GIVEN ROWS OF THIS SEAT. 10 by the template 'for every input the law returns true; each argument reads behind the call as it read before'; 0 by the template 'total and deterministic' (their statements: YtiffdfjknibmpaaTotals.lean).
  GIVEN WITH THE SEED: the statements are not yours to turn. If you find one false, say at which input.
  Laid BY PROGRAM, IN A SANDBOX (cutbox-rows.mjs): the forced cells as the released guide's own fill.sh prints them over the translation d3b330026f1b557f… (all of the seat's roots in one cut). By AI agents, Wed Nov 11 2026. No macro, syntax, notation, axiom, sorry.
-/
import Derived.Test.YtiffdfjknibmpaaChecked
import GoSem.Claim
import GoSem.ClaimJoined
import GoSem.ClaimMapViews
import Derived.JoinedTies
import Derived.KernelRfl
namespace Go.Proofs.Ytiffdfjknibmpaa
/- THE CELL 'sum', in the pinned program and in every row, IS THE sha256 OF THE DUMP (.gsa) THAT YtiffdfjknibmpaaProg.lean LOADS. Nothing in Lean hashes anything: it is a label: what it is worth is what the hold of that sum in a sandbox is worth. -/
noncomputable def Try.pinned : Pinned := { name := "ytiffdfjknibmpaa", sum := "d3b330026f1b557f71360e25ea2e8eefa9c6c7e447f64e7c48270a1d76b1e374", checked := Try.checked }
namespace Rows
def none {H : Type} : Left H := { results := [], args := [] }

/-- 'allotmentlaw19.CapGrows': WHATEVER THE INPUT: true; the input reads as it did. -/
def capGrowsSpec : ChangeSpec := { name := "capGrows", fn := fun _ => fun
  | [d1, d2] => { results := [.lit (.bool true)], args := [d1, d2] }
  | _ => none }
def capGrowsRow : OpenClaim := { program := "ytiffdfjknibmpaa", sum := "d3b330026f1b557f71360e25ea2e8eefa9c6c7e447f64e7c48270a1d76b1e374", func := "allotment/allotmentlaw19.CapGrows", spec := "capGrows", apart := false }
def CapGrowsSaid : Prop := capGrowsRow.holds Try.pinned (OpenSpec.ofChange capGrowsSpec)

/-- ITS FALSE NEIGHBOUR: 'it returns false'. Refute it at one input. -/
def capGrowsWrong : ChangeSpec := { name := "capGrows", fn := fun _ => fun
  | [d1, d2] => { results := [.lit (.bool false)], args := [d1, d2] }
  | _ => none }
def CapGrowsWrongFalsely : Prop := capGrowsRow.holds Try.pinned (OpenSpec.ofChange capGrowsWrong)

/-- 'allotmentlaw3.PlanWords': WHATEVER THE INPUT: true; the input reads as it did. -/
def planWordsSpec : ChangeSpec := { name := "planWords", fn := fun _ => fun
  | [d] => { results := [.lit (.bool true)], args := [d] }
  | _ => none }
def planWordsRow : OpenClaim := { program := "ytiffdfjknibmpaa", sum := "d3b330026f1b557f71360e25ea2e8eefa9c6c7e447f64e7c48270a1d76b1e374", func := "allotment/allotmentlaw3.PlanWords", spec := "planWords", apart := false }
def PlanWordsSaid : Prop := planWordsRow.holds Try.pinned (OpenSpec.ofChange planWordsSpec)

/-- ITS FALSE NEIGHBOUR: 'it returns false'. Refute it at one input. -/
def planWordsWrong : ChangeSpec := { name := "planWords", fn := fun _ => fun
  | [d] => { results := [.lit (.bool false)], args := [d] }
  | _ => none }
def PlanWordsWrongFalsely : Prop := planWordsRow.holds Try.pinned (OpenSpec.ofChange planWordsWrong)

/-- 'allotmentlaw3.PlanFits': WHATEVER THE INPUT: true; the input reads as it did. -/
def planFitsSpec : ChangeSpec := { name := "planFits", fn := fun _ => fun
  | [d1, d2] => { results := [.lit (.bool true)], args := [d1, d2] }
  | _ => none }
def planFitsRow : OpenClaim := { program := "ytiffdfjknibmpaa", sum := "d3b330026f1b557f71360e25ea2e8eefa9c6c7e447f64e7c48270a1d76b1e374", func := "allotment/allotmentlaw3.PlanFits", spec := "planFits", apart := false }
def PlanFitsSaid : Prop := planFitsRow.holds Try.pinned (OpenSpec.ofChange planFitsSpec)

/-- ITS FALSE NEIGHBOUR: 'it returns false'. Refute it at one input. -/
def planFitsWrong : ChangeSpec := { name := "planFits", fn := fun _ => fun
  | [d1, d2] => { results := [.lit (.bool false)], args := [d1, d2] }
  | _ => none }
def PlanFitsWrongFalsely : Prop := planFitsRow.holds Try.pinned (OpenSpec.ofChange planFitsWrong)

/-- 'allotmentlaw3.PlanSplits': WHATEVER THE INPUT: true; the input reads as it did. -/
def planSplitsSpec : ChangeSpec := { name := "planSplits", fn := fun _ => fun
  | [d1, d2] => { results := [.lit (.bool true)], args := [d1, d2] }
  | _ => none }
def planSplitsRow : OpenClaim := { program := "ytiffdfjknibmpaa", sum := "d3b330026f1b557f71360e25ea2e8eefa9c6c7e447f64e7c48270a1d76b1e374", func := "allotment/allotmentlaw3.PlanSplits", spec := "planSplits", apart := false }
def PlanSplitsSaid : Prop := planSplitsRow.holds Try.pinned (OpenSpec.ofChange planSplitsSpec)

/-- ITS FALSE NEIGHBOUR: 'it returns false'. Refute it at one input. -/
def planSplitsWrong : ChangeSpec := { name := "planSplits", fn := fun _ => fun
  | [d1, d2] => { results := [.lit (.bool false)], args := [d1, d2] }
  | _ => none }
def PlanSplitsWrongFalsely : Prop := planSplitsRow.holds Try.pinned (OpenSpec.ofChange planSplitsWrong)

/-- 'allotmentlaw3.PlanClasses': WHATEVER THE INPUT: true; the input reads as it did. -/
def planClassesSpec : ChangeSpec := { name := "planClasses", fn := fun _ => fun
  | [d1, d2, d3] => { results := [.lit (.bool true)], args := [d1, d2, d3] }
  | _ => none }
def planClassesRow : OpenClaim := { program := "ytiffdfjknibmpaa", sum := "d3b330026f1b557f71360e25ea2e8eefa9c6c7e447f64e7c48270a1d76b1e374", func := "allotment/allotmentlaw3.PlanClasses", spec := "planClasses", apart := false }
def PlanClassesSaid : Prop := planClassesRow.holds Try.pinned (OpenSpec.ofChange planClassesSpec)

/-- ITS FALSE NEIGHBOUR: 'it returns false'. Refute it at one input. -/
def planClassesWrong : ChangeSpec := { name := "planClasses", fn := fun _ => fun
  | [d1, d2, d3] => { results := [.lit (.bool false)], args := [d1, d2, d3] }
  | _ => none }
def PlanClassesWrongFalsely : Prop := planClassesRow.holds Try.pinned (OpenSpec.ofChange planClassesWrong)

/-- 'allotmentlaw3.PlanApart': WHATEVER THE INPUT: true; the input reads as it did. -/
def planApartSpec : ChangeSpec := { name := "planApart", fn := fun _ => fun
  | [d] => { results := [.lit (.bool true)], args := [d] }
  | _ => none }
def planApartRow : OpenClaim := { program := "ytiffdfjknibmpaa", sum := "d3b330026f1b557f71360e25ea2e8eefa9c6c7e447f64e7c48270a1d76b1e374", func := "allotment/allotmentlaw3.PlanApart", spec := "planApart", apart := false }
def PlanApartSaid : Prop := planApartRow.holds Try.pinned (OpenSpec.ofChange planApartSpec)

/-- ITS FALSE NEIGHBOUR: 'it returns false'. Refute it at one input. -/
def planApartWrong : ChangeSpec := { name := "planApart", fn := fun _ => fun
  | [d] => { results := [.lit (.bool false)], args := [d] }
  | _ => none }
def PlanApartWrongFalsely : Prop := planApartRow.holds Try.pinned (OpenSpec.ofChange planApartWrong)

/-- 'allotmentlaw3.PlanKnown': WHATEVER THE INPUT: true; the input reads as it did. -/
def planKnownSpec : ChangeSpec := { name := "planKnown", fn := fun _ => fun
  | [] => { results := [.lit (.bool true)], args := [] }
  | _ => none }
def planKnownRow : OpenClaim := { program := "ytiffdfjknibmpaa", sum := "d3b330026f1b557f71360e25ea2e8eefa9c6c7e447f64e7c48270a1d76b1e374", func := "allotment/allotmentlaw3.PlanKnown", spec := "planKnown", apart := false }
def PlanKnownSaid : Prop := planKnownRow.holds Try.pinned (OpenSpec.ofChange planKnownSpec)

/-- ITS FALSE NEIGHBOUR: 'it returns false'. Refute it at one input. -/
def planKnownWrong : ChangeSpec := { name := "planKnown", fn := fun _ => fun
  | [] => { results := [.lit (.bool false)], args := [] }
  | _ => none }
def PlanKnownWrongFalsely : Prop := planKnownRow.holds Try.pinned (OpenSpec.ofChange planKnownWrong)

/-- 'allotmentlaw3.PlanReckons': WHATEVER THE INPUT: true; the input reads as it did. -/
def planReckonsSpec : ChangeSpec := { name := "planReckons", fn := fun _ => fun
  | [d1, d2, d3] => { results := [.lit (.bool true)], args := [d1, d2, d3] }
  | _ => none }
def planReckonsRow : OpenClaim := { program := "ytiffdfjknibmpaa", sum := "d3b330026f1b557f71360e25ea2e8eefa9c6c7e447f64e7c48270a1d76b1e374", func := "allotment/allotmentlaw3.PlanReckons", spec := "planReckons", apart := false }
def PlanReckonsSaid : Prop := planReckonsRow.holds Try.pinned (OpenSpec.ofChange planReckonsSpec)

/-- ITS FALSE NEIGHBOUR: 'it returns false'. Refute it at one input. -/
def planReckonsWrong : ChangeSpec := { name := "planReckons", fn := fun _ => fun
  | [d1, d2, d3] => { results := [.lit (.bool false)], args := [d1, d2, d3] }
  | _ => none }
def PlanReckonsWrongFalsely : Prop := planReckonsRow.holds Try.pinned (OpenSpec.ofChange planReckonsWrong)

/-- 'allotmentlaw19.CapReckons': WHATEVER THE INPUT: true; the input reads as it did. -/
def capReckonsSpec : ChangeSpec := { name := "capReckons", fn := fun _ => fun
  | [d1, d2] => { results := [.lit (.bool true)], args := [d1, d2] }
  | _ => none }
def capReckonsRow : OpenClaim := { program := "ytiffdfjknibmpaa", sum := "d3b330026f1b557f71360e25ea2e8eefa9c6c7e447f64e7c48270a1d76b1e374", func := "allotment/allotmentlaw19.CapReckons", spec := "capReckons", apart := false }
def CapReckonsSaid : Prop := capReckonsRow.holds Try.pinned (OpenSpec.ofChange capReckonsSpec)

/-- ITS FALSE NEIGHBOUR: 'it returns false'. Refute it at one input. -/
def capReckonsWrong : ChangeSpec := { name := "capReckons", fn := fun _ => fun
  | [d1, d2] => { results := [.lit (.bool false)], args := [d1, d2] }
  | _ => none }
def CapReckonsWrongFalsely : Prop := capReckonsRow.holds Try.pinned (OpenSpec.ofChange capReckonsWrong)

/-- 'allotmentlaw19.CapOps': WHATEVER THE INPUT: true; the input reads as it did. -/
def capOpsSpec : ChangeSpec := { name := "capOps", fn := fun _ => fun
  | [d1, d2] => { results := [.lit (.bool true)], args := [d1, d2] }
  | _ => none }
def capOpsRow : OpenClaim := { program := "ytiffdfjknibmpaa", sum := "d3b330026f1b557f71360e25ea2e8eefa9c6c7e447f64e7c48270a1d76b1e374", func := "allotment/allotmentlaw19.CapOps", spec := "capOps", apart := false }
def CapOpsSaid : Prop := capOpsRow.holds Try.pinned (OpenSpec.ofChange capOpsSpec)

/-- ITS FALSE NEIGHBOUR: 'it returns false'. Refute it at one input. -/
def capOpsWrong : ChangeSpec := { name := "capOps", fn := fun _ => fun
  | [d1, d2] => { results := [.lit (.bool false)], args := [d1, d2] }
  | _ => none }
def CapOpsWrongFalsely : Prop := capOpsRow.holds Try.pinned (OpenSpec.ofChange capOpsWrong)

/- THE SECOND FORM. 'bulk': how many values and letters a reading holds, each counted each time it is reached (what is shared counts as often as it is met; a slice's spare places count too). A statement '..UptoSaid' is the law's where the arguments, and the package variables that the reading takes, are together of bulk at most 1048576: NARROWER than '..Said'. Prove '..Said' where nothing that the law and all that it calls make is longer than what came in: it says more and counts as full. Else prove '..UptoSaid'. A law counts once. -/
mutual
def uptoBulk {H : Type} : DataW H → Nat
  | .lit (.string bytes) => bytes.length + 1
  | .lit _ => 1
  | .nil => 1
  | .ptr d => uptoBulk d + 1
  | .slice elems spare => uptoBulkAll elems + uptoBulkAll spare + 1
  | .agg parts => uptoBulkAll parts + 1
  | .iface _ d => uptoBulk d + 1
  | .map entries => uptoBulkEntries entries + 1
  | .held _ => 1
def uptoBulkAll {H : Type} : List (DataW H) → Nat
  | [] => 0
  | d :: r => uptoBulk d + uptoBulkAll r
def uptoBulkEntries {H : Type} : List (Lit × DataW H) → Nat
  | [] => 0
  | x :: r => uptoBulkEntry x + uptoBulkEntries r
def uptoBulkEntry {H : Type} : Lit × DataW H → Nat
  | (.string bytes, d) => bytes.length + uptoBulk d + 1
  | (_, d) => uptoBulk d + 1
 end
def uptoSmall : (H : Type) → List (DataW H) → Bool := fun _ ds => decide (uptoBulkAll ds ≤ 1048576)
def OpenSpec.upto (s : _root_.Go.ChangeSpec) : _root_.Go.OpenSpec := { _root_.Go.OpenSpec.ofChange s with cond := some uptoSmall }

/-- 'allotmentlaw19.CapGrows', WHERE WHAT IT READS IS OF BULK AT MOST 1048576: true; the input reads as it did. -/
def capGrowsUptoRow : OpenClaim := { program := "ytiffdfjknibmpaa", sum := "d3b330026f1b557f71360e25ea2e8eefa9c6c7e447f64e7c48270a1d76b1e374", func := "allotment/allotmentlaw19.CapGrows", spec := "capGrows", apart := false, narrowed := true }
def CapGrowsUptoSaid : Prop := capGrowsUptoRow.holds Try.pinned (OpenSpec.upto capGrowsSpec)

/-- 'allotmentlaw3.PlanWords', WHERE WHAT IT READS IS OF BULK AT MOST 1048576: true; the input reads as it did. -/
def planWordsUptoRow : OpenClaim := { program := "ytiffdfjknibmpaa", sum := "d3b330026f1b557f71360e25ea2e8eefa9c6c7e447f64e7c48270a1d76b1e374", func := "allotment/allotmentlaw3.PlanWords", spec := "planWords", apart := false, narrowed := true }
def PlanWordsUptoSaid : Prop := planWordsUptoRow.holds Try.pinned (OpenSpec.upto planWordsSpec)

/-- 'allotmentlaw3.PlanFits', WHERE WHAT IT READS IS OF BULK AT MOST 1048576: true; the input reads as it did. -/
def planFitsUptoRow : OpenClaim := { program := "ytiffdfjknibmpaa", sum := "d3b330026f1b557f71360e25ea2e8eefa9c6c7e447f64e7c48270a1d76b1e374", func := "allotment/allotmentlaw3.PlanFits", spec := "planFits", apart := false, narrowed := true }
def PlanFitsUptoSaid : Prop := planFitsUptoRow.holds Try.pinned (OpenSpec.upto planFitsSpec)

/-- 'allotmentlaw3.PlanSplits', WHERE WHAT IT READS IS OF BULK AT MOST 1048576: true; the input reads as it did. -/
def planSplitsUptoRow : OpenClaim := { program := "ytiffdfjknibmpaa", sum := "d3b330026f1b557f71360e25ea2e8eefa9c6c7e447f64e7c48270a1d76b1e374", func := "allotment/allotmentlaw3.PlanSplits", spec := "planSplits", apart := false, narrowed := true }
def PlanSplitsUptoSaid : Prop := planSplitsUptoRow.holds Try.pinned (OpenSpec.upto planSplitsSpec)

/-- 'allotmentlaw3.PlanClasses', WHERE WHAT IT READS IS OF BULK AT MOST 1048576: true; the input reads as it did. -/
def planClassesUptoRow : OpenClaim := { program := "ytiffdfjknibmpaa", sum := "d3b330026f1b557f71360e25ea2e8eefa9c6c7e447f64e7c48270a1d76b1e374", func := "allotment/allotmentlaw3.PlanClasses", spec := "planClasses", apart := false, narrowed := true }
def PlanClassesUptoSaid : Prop := planClassesUptoRow.holds Try.pinned (OpenSpec.upto planClassesSpec)

/-- 'allotmentlaw3.PlanApart', WHERE WHAT IT READS IS OF BULK AT MOST 1048576: true; the input reads as it did. -/
def planApartUptoRow : OpenClaim := { program := "ytiffdfjknibmpaa", sum := "d3b330026f1b557f71360e25ea2e8eefa9c6c7e447f64e7c48270a1d76b1e374", func := "allotment/allotmentlaw3.PlanApart", spec := "planApart", apart := false, narrowed := true }
def PlanApartUptoSaid : Prop := planApartUptoRow.holds Try.pinned (OpenSpec.upto planApartSpec)

/-- 'allotmentlaw3.PlanKnown', WHERE WHAT IT READS IS OF BULK AT MOST 1048576: true; the input reads as it did. -/
def planKnownUptoRow : OpenClaim := { program := "ytiffdfjknibmpaa", sum := "d3b330026f1b557f71360e25ea2e8eefa9c6c7e447f64e7c48270a1d76b1e374", func := "allotment/allotmentlaw3.PlanKnown", spec := "planKnown", apart := false, narrowed := true }
def PlanKnownUptoSaid : Prop := planKnownUptoRow.holds Try.pinned (OpenSpec.upto planKnownSpec)

/-- 'allotmentlaw3.PlanReckons', WHERE WHAT IT READS IS OF BULK AT MOST 1048576: true; the input reads as it did. -/
def planReckonsUptoRow : OpenClaim := { program := "ytiffdfjknibmpaa", sum := "d3b330026f1b557f71360e25ea2e8eefa9c6c7e447f64e7c48270a1d76b1e374", func := "allotment/allotmentlaw3.PlanReckons", spec := "planReckons", apart := false, narrowed := true }
def PlanReckonsUptoSaid : Prop := planReckonsUptoRow.holds Try.pinned (OpenSpec.upto planReckonsSpec)

/-- 'allotmentlaw19.CapReckons', WHERE WHAT IT READS IS OF BULK AT MOST 1048576: true; the input reads as it did. -/
def capReckonsUptoRow : OpenClaim := { program := "ytiffdfjknibmpaa", sum := "d3b330026f1b557f71360e25ea2e8eefa9c6c7e447f64e7c48270a1d76b1e374", func := "allotment/allotmentlaw19.CapReckons", spec := "capReckons", apart := false, narrowed := true }
def CapReckonsUptoSaid : Prop := capReckonsUptoRow.holds Try.pinned (OpenSpec.upto capReckonsSpec)

/-- 'allotmentlaw19.CapOps', WHERE WHAT IT READS IS OF BULK AT MOST 1048576: true; the input reads as it did. -/
def capOpsUptoRow : OpenClaim := { program := "ytiffdfjknibmpaa", sum := "d3b330026f1b557f71360e25ea2e8eefa9c6c7e447f64e7c48270a1d76b1e374", func := "allotment/allotmentlaw19.CapOps", spec := "capOps", apart := false, narrowed := true }
def CapOpsUptoSaid : Prop := capOpsUptoRow.holds Try.pinned (OpenSpec.upto capOpsSpec)

end Rows
end Go.Proofs.Ytiffdfjknibmpaa
