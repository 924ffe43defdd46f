/-
  No cell of these rows narrows 'for every input' (looked for: loops, veiled, ifaces, maps, wideKeys, modest, calm, conditions, laid).
  DERIVED. THE GIVEN ROWS OF THIS SEAT. 7 by the template 'for every input the law returns true; each argument reads behind the call as it read before'; 0 by the template 'total and deterministic' (their statements: YtkjpgikjcfhckaaGreatTotals.lean).
  GIVEN WITH THE SEED: the statements are not yours to turn. If you find one false, say at which input.
  Laid BY PROGRAM, IN A SANDBOX (cutbox-rows.mjs): the forced cells as the released guide's own fill.sh prints them over the translation e25378c8da844819… (all of the seat's roots in one cut). By AI agents, Wed Nov 11 2026. No macro, syntax, notation, axiom, sorry.
-/
import Derived.Test.YtkjpgikjcfhckaaGreatChecked
import GoSem.Claim
import GoSem.ClaimJoined
import GoSem.ClaimMapViews
import Derived.JoinedTies
import Derived.KernelRfl
namespace Go.Proofs.YtkjpgikjcfhckaaGreat
/- THE CELL 'sum', in the pinned program and in every row, IS THE sha256 OF THE DUMP (.gsa) THAT YtkjpgikjcfhckaaGreatProg.lean LOADS. Nothing in Lean hashes anything: it is a label: what it is worth is what the hold of that sum in a sandbox is worth. -/
noncomputable def Tryz.pinned : Pinned := { name := "ytkjpgikjcfhckaagreat", sum := "e25378c8da844819f6a9cd5f6b7c8c8e233c0072991db93296344e22beb0447d", checked := Tryz.checked }
namespace Rows
def none {H : Type} : Left H := { results := [], args := [] }

/-- 'allotmenttop.TopLeak': WHATEVER THE INPUT: true; the input reads as it did. -/
def topLeakSpec : ChangeSpec := { name := "topLeak", fn := fun _ => fun
  | [d1, d2] => { results := [.lit (.bool true)], args := [d1, d2] }
  | _ => none }
def topLeakRow : OpenClaim := { program := "ytkjpgikjcfhckaagreat", sum := "e25378c8da844819f6a9cd5f6b7c8c8e233c0072991db93296344e22beb0447d", func := "allotment/allotmenttop.TopLeak", spec := "topLeak", inPlace := ["math.Float64bits", "math.Float64frombits"], unfollowed := true, recurses := true, apart := false }
def TopLeakSaid : Prop := topLeakRow.holds Tryz.pinned (OpenSpec.ofChange topLeakSpec)

/-- ITS FALSE NEIGHBOUR: 'it returns false'. Refute it at one input. -/
def topLeakWrong : ChangeSpec := { name := "topLeak", fn := fun _ => fun
  | [d1, d2] => { results := [.lit (.bool false)], args := [d1, d2] }
  | _ => none }
def TopLeakWrongFalsely : Prop := topLeakRow.holds Tryz.pinned (OpenSpec.ofChange topLeakWrong)

/-- 'allotmenttop.TopBound': WHATEVER THE INPUT: true; the input reads as it did. -/
def topBoundSpec : ChangeSpec := { name := "topBound", fn := fun _ => fun
  | [d1, d2] => { results := [.lit (.bool true)], args := [d1, d2] }
  | _ => none }
def topBoundRow : OpenClaim := { program := "ytkjpgikjcfhckaagreat", sum := "e25378c8da844819f6a9cd5f6b7c8c8e233c0072991db93296344e22beb0447d", func := "allotment/allotmenttop.TopBound", spec := "topBound", inPlace := ["math.Float64bits", "math.Float64frombits"], unfollowed := true, recurses := true, apart := false }
def TopBoundSaid : Prop := topBoundRow.holds Tryz.pinned (OpenSpec.ofChange topBoundSpec)

/-- ITS FALSE NEIGHBOUR: 'it returns false'. Refute it at one input. -/
def topBoundWrong : ChangeSpec := { name := "topBound", fn := fun _ => fun
  | [d1, d2] => { results := [.lit (.bool false)], args := [d1, d2] }
  | _ => none }
def TopBoundWrongFalsely : Prop := topBoundRow.holds Tryz.pinned (OpenSpec.ofChange topBoundWrong)

/-- 'allotmenttop.TopNoMemory': WHATEVER THE INPUT: true; the input reads as it did. -/
def topNoMemorySpec : ChangeSpec := { name := "topNoMemory", fn := fun _ => fun
  | [d1, d2] => { results := [.lit (.bool true)], args := [d1, d2] }
  | _ => none }
def topNoMemoryRow : OpenClaim := { program := "ytkjpgikjcfhckaagreat", sum := "e25378c8da844819f6a9cd5f6b7c8c8e233c0072991db93296344e22beb0447d", func := "allotment/allotmenttop.TopNoMemory", spec := "topNoMemory", inPlace := ["math.Float64bits", "math.Float64frombits"], unfollowed := true, recurses := true, apart := false }
def TopNoMemorySaid : Prop := topNoMemoryRow.holds Tryz.pinned (OpenSpec.ofChange topNoMemorySpec)

/-- ITS FALSE NEIGHBOUR: 'it returns false'. Refute it at one input. -/
def topNoMemoryWrong : ChangeSpec := { name := "topNoMemory", fn := fun _ => fun
  | [d1, d2] => { results := [.lit (.bool false)], args := [d1, d2] }
  | _ => none }
def TopNoMemoryWrongFalsely : Prop := topNoMemoryRow.holds Tryz.pinned (OpenSpec.ofChange topNoMemoryWrong)

/-- 'allotmenttop.TopQuiet': WHATEVER THE INPUT: true; the input reads as it did. -/
def topQuietSpec : ChangeSpec := { name := "topQuiet", fn := fun _ => fun
  | [d1, d2] => { results := [.lit (.bool true)], args := [d1, d2] }
  | _ => none }
def topQuietRow : OpenClaim := { program := "ytkjpgikjcfhckaagreat", sum := "e25378c8da844819f6a9cd5f6b7c8c8e233c0072991db93296344e22beb0447d", func := "allotment/allotmenttop.TopQuiet", spec := "topQuiet", inPlace := ["math.Float64bits", "math.Float64frombits"], unfollowed := true, recurses := true, apart := false }
def TopQuietSaid : Prop := topQuietRow.holds Tryz.pinned (OpenSpec.ofChange topQuietSpec)

/-- ITS FALSE NEIGHBOUR: 'it returns false'. Refute it at one input. -/
def topQuietWrong : ChangeSpec := { name := "topQuiet", fn := fun _ => fun
  | [d1, d2] => { results := [.lit (.bool false)], args := [d1, d2] }
  | _ => none }
def TopQuietWrongFalsely : Prop := topQuietRow.holds Tryz.pinned (OpenSpec.ofChange topQuietWrong)

/-- 'allotmenttop.TopFillUp': WHATEVER THE INPUT: true; the input reads as it did. -/
def topFillUpSpec : ChangeSpec := { name := "topFillUp", fn := fun _ => fun
  | [d1, d2, d3] => { results := [.lit (.bool true)], args := [d1, d2, d3] }
  | _ => none }
def topFillUpRow : OpenClaim := { program := "ytkjpgikjcfhckaagreat", sum := "e25378c8da844819f6a9cd5f6b7c8c8e233c0072991db93296344e22beb0447d", func := "allotment/allotmenttop.TopFillUp", spec := "topFillUp", inPlace := ["math.Float64bits", "math.Float64frombits"], unfollowed := true, recurses := true, apart := false }
def TopFillUpSaid : Prop := topFillUpRow.holds Tryz.pinned (OpenSpec.ofChange topFillUpSpec)

/-- ITS FALSE NEIGHBOUR: 'it returns false'. Refute it at one input. -/
def topFillUpWrong : ChangeSpec := { name := "topFillUp", fn := fun _ => fun
  | [d1, d2, d3] => { results := [.lit (.bool false)], args := [d1, d2, d3] }
  | _ => none }
def TopFillUpWrongFalsely : Prop := topFillUpRow.holds Tryz.pinned (OpenSpec.ofChange topFillUpWrong)

/-- 'allotmenttop.TopBias': WHATEVER THE INPUT: true; the input reads as it did. -/
def topBiasSpec : ChangeSpec := { name := "topBias", fn := fun _ => fun
  | [d1, d2, d3] => { results := [.lit (.bool true)], args := [d1, d2, d3] }
  | _ => none }
def topBiasRow : OpenClaim := { program := "ytkjpgikjcfhckaagreat", sum := "e25378c8da844819f6a9cd5f6b7c8c8e233c0072991db93296344e22beb0447d", func := "allotment/allotmenttop.TopBias", spec := "topBias", inPlace := ["math.Float64bits", "math.Float64frombits"], unfollowed := true, recurses := true, apart := false }
def TopBiasSaid : Prop := topBiasRow.holds Tryz.pinned (OpenSpec.ofChange topBiasSpec)

/-- ITS FALSE NEIGHBOUR: 'it returns false'. Refute it at one input. -/
def topBiasWrong : ChangeSpec := { name := "topBias", fn := fun _ => fun
  | [d1, d2, d3] => { results := [.lit (.bool false)], args := [d1, d2, d3] }
  | _ => none }
def TopBiasWrongFalsely : Prop := topBiasRow.holds Tryz.pinned (OpenSpec.ofChange topBiasWrong)

/-- 'allotmenttop.TopHeld': WHATEVER THE INPUT: true; the input reads as it did. -/
def topHeldSpec : ChangeSpec := { name := "topHeld", fn := fun _ => fun
  | [d1, d2] => { results := [.lit (.bool true)], args := [d1, d2] }
  | _ => none }
def topHeldRow : OpenClaim := { program := "ytkjpgikjcfhckaagreat", sum := "e25378c8da844819f6a9cd5f6b7c8c8e233c0072991db93296344e22beb0447d", func := "allotment/allotmenttop.TopHeld", spec := "topHeld", inPlace := ["math.Float64bits", "math.Float64frombits"], unfollowed := true, recurses := true, apart := false }
def TopHeldSaid : Prop := topHeldRow.holds Tryz.pinned (OpenSpec.ofChange topHeldSpec)

/-- ITS FALSE NEIGHBOUR: 'it returns false'. Refute it at one input. -/
def topHeldWrong : ChangeSpec := { name := "topHeld", fn := fun _ => fun
  | [d1, d2] => { results := [.lit (.bool false)], args := [d1, d2] }
  | _ => none }
def TopHeldWrongFalsely : Prop := topHeldRow.holds Tryz.pinned (OpenSpec.ofChange topHeldWrong)

/- THE SECOND FORM. 'bulk': how many values and letters a reading holds, each counted each time it is reached (what is shared counts as often as it is met; a slice's spare places count too). A statement '..UptoSaid' is the law's where the arguments, and the package variables that the reading takes, are together of bulk at most 1048576: NARROWER than '..Said'. Prove '..Said' where nothing that the law and all that it calls make is longer than what came in: it says more and counts as full. Else prove '..UptoSaid'. A law counts once. -/
mutual
def uptoBulk {H : Type} : DataW H → Nat
  | .lit (.string bytes) => bytes.length + 1
  | .lit _ => 1
  | .nil => 1
  | .ptr d => uptoBulk d + 1
  | .slice elems spare => uptoBulkAll elems + uptoBulkAll spare + 1
  | .agg parts => uptoBulkAll parts + 1
  | .iface _ d => uptoBulk d + 1
  | .map entries => uptoBulkEntries entries + 1
  | .held _ => 1
def uptoBulkAll {H : Type} : List (DataW H) → Nat
  | [] => 0
  | d :: r => uptoBulk d + uptoBulkAll r
def uptoBulkEntries {H : Type} : List (Lit × DataW H) → Nat
  | [] => 0
  | x :: r => uptoBulkEntry x + uptoBulkEntries r
def uptoBulkEntry {H : Type} : Lit × DataW H → Nat
  | (.string bytes, d) => bytes.length + uptoBulk d + 1
  | (_, d) => uptoBulk d + 1
 end
def uptoSmall : (H : Type) → List (DataW H) → Bool := fun _ ds => decide (uptoBulkAll ds ≤ 1048576)
def OpenSpec.upto (s : _root_.Go.ChangeSpec) : _root_.Go.OpenSpec := { _root_.Go.OpenSpec.ofChange s with cond := some uptoSmall }

/-- 'allotmenttop.TopLeak', WHERE WHAT IT READS IS OF BULK AT MOST 1048576: true; the input reads as it did. -/
def topLeakUptoRow : OpenClaim := { program := "ytkjpgikjcfhckaagreat", sum := "e25378c8da844819f6a9cd5f6b7c8c8e233c0072991db93296344e22beb0447d", func := "allotment/allotmenttop.TopLeak", spec := "topLeak", inPlace := ["math.Float64bits", "math.Float64frombits"], unfollowed := true, recurses := true, apart := false, narrowed := true }
def TopLeakUptoSaid : Prop := topLeakUptoRow.holds Tryz.pinned (OpenSpec.upto topLeakSpec)

/-- 'allotmenttop.TopBound', WHERE WHAT IT READS IS OF BULK AT MOST 1048576: true; the input reads as it did. -/
def topBoundUptoRow : OpenClaim := { program := "ytkjpgikjcfhckaagreat", sum := "e25378c8da844819f6a9cd5f6b7c8c8e233c0072991db93296344e22beb0447d", func := "allotment/allotmenttop.TopBound", spec := "topBound", inPlace := ["math.Float64bits", "math.Float64frombits"], unfollowed := true, recurses := true, apart := false, narrowed := true }
def TopBoundUptoSaid : Prop := topBoundUptoRow.holds Tryz.pinned (OpenSpec.upto topBoundSpec)

/-- 'allotmenttop.TopNoMemory', WHERE WHAT IT READS IS OF BULK AT MOST 1048576: true; the input reads as it did. -/
def topNoMemoryUptoRow : OpenClaim := { program := "ytkjpgikjcfhckaagreat", sum := "e25378c8da844819f6a9cd5f6b7c8c8e233c0072991db93296344e22beb0447d", func := "allotment/allotmenttop.TopNoMemory", spec := "topNoMemory", inPlace := ["math.Float64bits", "math.Float64frombits"], unfollowed := true, recurses := true, apart := false, narrowed := true }
def TopNoMemoryUptoSaid : Prop := topNoMemoryUptoRow.holds Tryz.pinned (OpenSpec.upto topNoMemorySpec)

/-- 'allotmenttop.TopQuiet', WHERE WHAT IT READS IS OF BULK AT MOST 1048576: true; the input reads as it did. -/
def topQuietUptoRow : OpenClaim := { program := "ytkjpgikjcfhckaagreat", sum := "e25378c8da844819f6a9cd5f6b7c8c8e233c0072991db93296344e22beb0447d", func := "allotment/allotmenttop.TopQuiet", spec := "topQuiet", inPlace := ["math.Float64bits", "math.Float64frombits"], unfollowed := true, recurses := true, apart := false, narrowed := true }
def TopQuietUptoSaid : Prop := topQuietUptoRow.holds Tryz.pinned (OpenSpec.upto topQuietSpec)

/-- 'allotmenttop.TopFillUp', WHERE WHAT IT READS IS OF BULK AT MOST 1048576: true; the input reads as it did. -/
def topFillUpUptoRow : OpenClaim := { program := "ytkjpgikjcfhckaagreat", sum := "e25378c8da844819f6a9cd5f6b7c8c8e233c0072991db93296344e22beb0447d", func := "allotment/allotmenttop.TopFillUp", spec := "topFillUp", inPlace := ["math.Float64bits", "math.Float64frombits"], unfollowed := true, recurses := true, apart := false, narrowed := true }
def TopFillUpUptoSaid : Prop := topFillUpUptoRow.holds Tryz.pinned (OpenSpec.upto topFillUpSpec)

/-- 'allotmenttop.TopBias', WHERE WHAT IT READS IS OF BULK AT MOST 1048576: true; the input reads as it did. -/
def topBiasUptoRow : OpenClaim := { program := "ytkjpgikjcfhckaagreat", sum := "e25378c8da844819f6a9cd5f6b7c8c8e233c0072991db93296344e22beb0447d", func := "allotment/allotmenttop.TopBias", spec := "topBias", inPlace := ["math.Float64bits", "math.Float64frombits"], unfollowed := true, recurses := true, apart := false, narrowed := true }
def TopBiasUptoSaid : Prop := topBiasUptoRow.holds Tryz.pinned (OpenSpec.upto topBiasSpec)

/-- 'allotmenttop.TopHeld', WHERE WHAT IT READS IS OF BULK AT MOST 1048576: true; the input reads as it did. -/
def topHeldUptoRow : OpenClaim := { program := "ytkjpgikjcfhckaagreat", sum := "e25378c8da844819f6a9cd5f6b7c8c8e233c0072991db93296344e22beb0447d", func := "allotment/allotmenttop.TopHeld", spec := "topHeld", inPlace := ["math.Float64bits", "math.Float64frombits"], unfollowed := true, recurses := true, apart := false, narrowed := true }
def TopHeldUptoSaid : Prop := topHeldUptoRow.holds Tryz.pinned (OpenSpec.upto topHeldSpec)

end Rows
end Go.Proofs.YtkjpgikjcfhckaaGreat
