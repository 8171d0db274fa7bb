/-
  No cell of these rows narrows 'for every input' (looked for: loops, veiled, ifaces, maps, wideKeys, modest, calm, conditions, laid).
  DERIVED. THE GIVEN ROWS OF THIS SEAT. 12 by the template 'for every input the law returns true; each argument reads behind the call as it read before'; 0 by the template 'total and deterministic' (their statements: YtdhdfmmefghijabTotals.lean).
  GIVEN WITH THE SEED: the statements are not yours to turn. If you find one false, say at which input.
  Laid BY PROGRAM, IN A SANDBOX (cutbox-rows.mjs): the forced cells as the released guide's own fill.sh prints them over the translation e3536dabb1842bb7… (all of the seat's roots in one cut). By AI agents, Wed Nov 11 2026. No macro, syntax, notation, axiom, sorry.
-/
import Derived.Test.YtdhdfmmefghijabChecked
import GoSem.Claim
import GoSem.ClaimJoined
import GoSem.ClaimMapViews
import Derived.JoinedTies
import Derived.KernelRfl
namespace Go.Proofs.Ytdhdfmmefghijab
/- THE CELL 'sum', in the pinned program and in every row, IS THE sha256 OF THE DUMP (.gsa) THAT YtdhdfmmefghijabProg.lean LOADS. Nothing in Lean hashes anything: it is a label: what it is worth is what the hold of that sum in a sandbox is worth. -/
noncomputable def Try.pinned : Pinned := { name := "ytdhdfmmefghijab", sum := "e3536dabb1842bb743970714ece64d112f7a6743434409f66d14a25f40614ff1", checked := Try.checked }
namespace Rows
def none {H : Type} : Left H := { results := [], args := [] }

/-- 'laws.FnCatEmpty': WHATEVER THE INPUT: true; the input reads as it did. -/
def fnCatEmptySpec : ChangeSpec := { name := "fnCatEmpty", fn := fun _ => fun
  | [d] => { results := [.lit (.bool true)], args := [d] }
  | _ => none }
def fnCatEmptyRow : OpenClaim := { program := "ytdhdfmmefghijab", sum := "e3536dabb1842bb743970714ece64d112f7a6743434409f66d14a25f40614ff1", func := "loop.example/docalgebra/laws.FnCatEmpty", spec := "fnCatEmpty", inPlace := ["internal/bytealg.IndexByteString"], recurses := true, apart := false }
def FnCatEmptySaid : Prop := fnCatEmptyRow.holds Try.pinned (OpenSpec.ofChange fnCatEmptySpec)

/-- ITS FALSE NEIGHBOUR: 'it returns false'. Refute it at one input. -/
def fnCatEmptyWrong : ChangeSpec := { name := "fnCatEmpty", fn := fun _ => fun
  | [d] => { results := [.lit (.bool false)], args := [d] }
  | _ => none }
def FnCatEmptyWrongFalsely : Prop := fnCatEmptyRow.holds Try.pinned (OpenSpec.ofChange fnCatEmptyWrong)

/-- 'laws.FnCatGroups': WHATEVER THE INPUT: true; the input reads as it did. -/
def fnCatGroupsSpec : ChangeSpec := { name := "fnCatGroups", fn := fun _ => fun
  | [d1, d2] => { results := [.lit (.bool true)], args := [d1, d2] }
  | _ => none }
def fnCatGroupsRow : OpenClaim := { program := "ytdhdfmmefghijab", sum := "e3536dabb1842bb743970714ece64d112f7a6743434409f66d14a25f40614ff1", func := "loop.example/docalgebra/laws.FnCatGroups", spec := "fnCatGroups", inPlace := ["internal/bytealg.IndexByteString"], recurses := true, apart := false }
def FnCatGroupsSaid : Prop := fnCatGroupsRow.holds Try.pinned (OpenSpec.ofChange fnCatGroupsSpec)

/-- ITS FALSE NEIGHBOUR: 'it returns false'. Refute it at one input. -/
def fnCatGroupsWrong : ChangeSpec := { name := "fnCatGroups", fn := fun _ => fun
  | [d1, d2] => { results := [.lit (.bool false)], args := [d1, d2] }
  | _ => none }
def FnCatGroupsWrongFalsely : Prop := fnCatGroupsRow.holds Try.pinned (OpenSpec.ofChange fnCatGroupsWrong)

/-- 'laws.FnCatLayouts': WHATEVER THE INPUT: true; the input reads as it did. -/
def fnCatLayoutsSpec : ChangeSpec := { name := "fnCatLayouts", fn := fun _ => fun
  | [d] => { results := [.lit (.bool true)], args := [d] }
  | _ => none }
def fnCatLayoutsRow : OpenClaim := { program := "ytdhdfmmefghijab", sum := "e3536dabb1842bb743970714ece64d112f7a6743434409f66d14a25f40614ff1", func := "loop.example/docalgebra/laws.FnCatLayouts", spec := "fnCatLayouts", inPlace := ["internal/bytealg.IndexByteString"], recurses := true, apart := false }
def FnCatLayoutsSaid : Prop := fnCatLayoutsRow.holds Try.pinned (OpenSpec.ofChange fnCatLayoutsSpec)

/-- ITS FALSE NEIGHBOUR: 'it returns false'. Refute it at one input. -/
def fnCatLayoutsWrong : ChangeSpec := { name := "fnCatLayouts", fn := fun _ => fun
  | [d] => { results := [.lit (.bool false)], args := [d] }
  | _ => none }
def FnCatLayoutsWrongFalsely : Prop := fnCatLayoutsRow.holds Try.pinned (OpenSpec.ofChange fnCatLayoutsWrong)

/-- 'laws.FnNestLayout': WHATEVER THE INPUT: true; the input reads as it did. -/
def fnNestLayoutSpec : ChangeSpec := { name := "fnNestLayout", fn := fun _ => fun
  | [d] => { results := [.lit (.bool true)], args := [d] }
  | _ => none }
def fnNestLayoutRow : OpenClaim := { program := "ytdhdfmmefghijab", sum := "e3536dabb1842bb743970714ece64d112f7a6743434409f66d14a25f40614ff1", func := "loop.example/docalgebra/laws.FnNestLayout", spec := "fnNestLayout", inPlace := ["internal/bytealg.IndexByteString"], recurses := true, apart := false }
def FnNestLayoutSaid : Prop := fnNestLayoutRow.holds Try.pinned (OpenSpec.ofChange fnNestLayoutSpec)

/-- ITS FALSE NEIGHBOUR: 'it returns false'. Refute it at one input. -/
def fnNestLayoutWrong : ChangeSpec := { name := "fnNestLayout", fn := fun _ => fun
  | [d] => { results := [.lit (.bool false)], args := [d] }
  | _ => none }
def FnNestLayoutWrongFalsely : Prop := fnNestLayoutRow.holds Try.pinned (OpenSpec.ofChange fnNestLayoutWrong)

/-- 'laws.FnNestZero': WHATEVER THE INPUT: true; the input reads as it did. -/
def fnNestZeroSpec : ChangeSpec := { name := "fnNestZero", fn := fun _ => fun
  | [d] => { results := [.lit (.bool true)], args := [d] }
  | _ => none }
def fnNestZeroRow : OpenClaim := { program := "ytdhdfmmefghijab", sum := "e3536dabb1842bb743970714ece64d112f7a6743434409f66d14a25f40614ff1", func := "loop.example/docalgebra/laws.FnNestZero", spec := "fnNestZero", inPlace := ["internal/bytealg.IndexByteString"], recurses := true, apart := false }
def FnNestZeroSaid : Prop := fnNestZeroRow.holds Try.pinned (OpenSpec.ofChange fnNestZeroSpec)

/-- ITS FALSE NEIGHBOUR: 'it returns false'. Refute it at one input. -/
def fnNestZeroWrong : ChangeSpec := { name := "fnNestZero", fn := fun _ => fun
  | [d] => { results := [.lit (.bool false)], args := [d] }
  | _ => none }
def FnNestZeroWrongFalsely : Prop := fnNestZeroRow.holds Try.pinned (OpenSpec.ofChange fnNestZeroWrong)

/-- 'laws.FnNestCat': WHATEVER THE INPUT: true; the input reads as it did. -/
def fnNestCatSpec : ChangeSpec := { name := "fnNestCat", fn := fun _ => fun
  | [d] => { results := [.lit (.bool true)], args := [d] }
  | _ => none }
def fnNestCatRow : OpenClaim := { program := "ytdhdfmmefghijab", sum := "e3536dabb1842bb743970714ece64d112f7a6743434409f66d14a25f40614ff1", func := "loop.example/docalgebra/laws.FnNestCat", spec := "fnNestCat", inPlace := ["internal/bytealg.IndexByteString"], recurses := true, apart := false }
def FnNestCatSaid : Prop := fnNestCatRow.holds Try.pinned (OpenSpec.ofChange fnNestCatSpec)

/-- ITS FALSE NEIGHBOUR: 'it returns false'. Refute it at one input. -/
def fnNestCatWrong : ChangeSpec := { name := "fnNestCat", fn := fun _ => fun
  | [d] => { results := [.lit (.bool false)], args := [d] }
  | _ => none }
def FnNestCatWrongFalsely : Prop := fnNestCatRow.holds Try.pinned (OpenSpec.ofChange fnNestCatWrong)

/-- 'laws.FnOpenNest': WHATEVER THE INPUT: true; the input reads as it did. -/
def fnOpenNestSpec : ChangeSpec := { name := "fnOpenNest", fn := fun _ => fun
  | [d] => { results := [.lit (.bool true)], args := [d] }
  | _ => none }
def fnOpenNestRow : OpenClaim := { program := "ytdhdfmmefghijab", sum := "e3536dabb1842bb743970714ece64d112f7a6743434409f66d14a25f40614ff1", func := "loop.example/docalgebra/laws.FnOpenNest", spec := "fnOpenNest", inPlace := ["internal/bytealg.IndexByteString"], recurses := true, apart := false }
def FnOpenNestSaid : Prop := fnOpenNestRow.holds Try.pinned (OpenSpec.ofChange fnOpenNestSpec)

/-- ITS FALSE NEIGHBOUR: 'it returns false'. Refute it at one input. -/
def fnOpenNestWrong : ChangeSpec := { name := "fnOpenNest", fn := fun _ => fun
  | [d] => { results := [.lit (.bool false)], args := [d] }
  | _ => none }
def FnOpenNestWrongFalsely : Prop := fnOpenNestRow.holds Try.pinned (OpenSpec.ofChange fnOpenNestWrong)

/-- 'laws.FnOpenLayout': WHATEVER THE INPUT: true; the input reads as it did. -/
def fnOpenLayoutSpec : ChangeSpec := { name := "fnOpenLayout", fn := fun _ => fun
  | [d] => { results := [.lit (.bool true)], args := [d] }
  | _ => none }
def fnOpenLayoutRow : OpenClaim := { program := "ytdhdfmmefghijab", sum := "e3536dabb1842bb743970714ece64d112f7a6743434409f66d14a25f40614ff1", func := "loop.example/docalgebra/laws.FnOpenLayout", spec := "fnOpenLayout", inPlace := ["internal/bytealg.IndexByteString"], recurses := true, apart := false }
def FnOpenLayoutSaid : Prop := fnOpenLayoutRow.holds Try.pinned (OpenSpec.ofChange fnOpenLayoutSpec)

/-- ITS FALSE NEIGHBOUR: 'it returns false'. Refute it at one input. -/
def fnOpenLayoutWrong : ChangeSpec := { name := "fnOpenLayout", fn := fun _ => fun
  | [d] => { results := [.lit (.bool false)], args := [d] }
  | _ => none }
def FnOpenLayoutWrongFalsely : Prop := fnOpenLayoutRow.holds Try.pinned (OpenSpec.ofChange fnOpenLayoutWrong)

/-- 'laws.FnLayoutSame': WHATEVER THE INPUT: true; the input reads as it did. -/
def fnLayoutSameSpec : ChangeSpec := { name := "fnLayoutSame", fn := fun _ => fun
  | [d] => { results := [.lit (.bool true)], args := [d] }
  | _ => none }
def fnLayoutSameRow : OpenClaim := { program := "ytdhdfmmefghijab", sum := "e3536dabb1842bb743970714ece64d112f7a6743434409f66d14a25f40614ff1", func := "loop.example/docalgebra/laws.FnLayoutSame", spec := "fnLayoutSame", inPlace := ["internal/bytealg.IndexByteString", "internal/abi.NoEscape", "internal/bytealg.MakeNoZero"], recurses := true, apart := false }
def FnLayoutSameSaid : Prop := fnLayoutSameRow.holds Try.pinned (OpenSpec.ofChange fnLayoutSameSpec)

/-- ITS FALSE NEIGHBOUR: 'it returns false'. Refute it at one input. -/
def fnLayoutSameWrong : ChangeSpec := { name := "fnLayoutSame", fn := fun _ => fun
  | [d] => { results := [.lit (.bool false)], args := [d] }
  | _ => none }
def FnLayoutSameWrongFalsely : Prop := fnLayoutSameRow.holds Try.pinned (OpenSpec.ofChange fnLayoutSameWrong)

/-- 'laws.FnOverflowSum': WHATEVER THE INPUT: true; the input reads as it did. -/
def fnOverflowSumSpec : ChangeSpec := { name := "fnOverflowSum", fn := fun _ => fun
  | [d] => { results := [.lit (.bool true)], args := [d] }
  | _ => none }
def fnOverflowSumRow : OpenClaim := { program := "ytdhdfmmefghijab", sum := "e3536dabb1842bb743970714ece64d112f7a6743434409f66d14a25f40614ff1", func := "loop.example/docalgebra/laws.FnOverflowSum", spec := "fnOverflowSum", inPlace := ["internal/bytealg.IndexByteString", "internal/abi.NoEscape", "internal/bytealg.MakeNoZero"], recurses := true, apart := false }
def FnOverflowSumSaid : Prop := fnOverflowSumRow.holds Try.pinned (OpenSpec.ofChange fnOverflowSumSpec)

/-- ITS FALSE NEIGHBOUR: 'it returns false'. Refute it at one input. -/
def fnOverflowSumWrong : ChangeSpec := { name := "fnOverflowSum", fn := fun _ => fun
  | [d] => { results := [.lit (.bool false)], args := [d] }
  | _ => none }
def FnOverflowSumWrongFalsely : Prop := fnOverflowSumRow.holds Try.pinned (OpenSpec.ofChange fnOverflowSumWrong)

/-- 'laws.FnLayoutWidth': WHATEVER THE INPUT: true; the input reads as it did. -/
def fnLayoutWidthSpec : ChangeSpec := { name := "fnLayoutWidth", fn := fun _ => fun
  | [d] => { results := [.lit (.bool true)], args := [d] }
  | _ => none }
def fnLayoutWidthRow : OpenClaim := { program := "ytdhdfmmefghijab", sum := "e3536dabb1842bb743970714ece64d112f7a6743434409f66d14a25f40614ff1", func := "loop.example/docalgebra/laws.FnLayoutWidth", spec := "fnLayoutWidth", inPlace := ["internal/bytealg.IndexByteString", "internal/abi.NoEscape", "internal/bytealg.MakeNoZero"], recurses := true, apart := false }
def FnLayoutWidthSaid : Prop := fnLayoutWidthRow.holds Try.pinned (OpenSpec.ofChange fnLayoutWidthSpec)

/-- ITS FALSE NEIGHBOUR: 'it returns false'. Refute it at one input. -/
def fnLayoutWidthWrong : ChangeSpec := { name := "fnLayoutWidth", fn := fun _ => fun
  | [d] => { results := [.lit (.bool false)], args := [d] }
  | _ => none }
def FnLayoutWidthWrongFalsely : Prop := fnLayoutWidthRow.holds Try.pinned (OpenSpec.ofChange fnLayoutWidthWrong)

/-- 'laws.FnCountGroups': WHATEVER THE INPUT: true; the input reads as it did. -/
def fnCountGroupsSpec : ChangeSpec := { name := "fnCountGroups", fn := fun _ => fun
  | [d] => { results := [.lit (.bool true)], args := [d] }
  | _ => none }
def fnCountGroupsRow : OpenClaim := { program := "ytdhdfmmefghijab", sum := "e3536dabb1842bb743970714ece64d112f7a6743434409f66d14a25f40614ff1", func := "loop.example/docalgebra/laws.FnCountGroups", spec := "fnCountGroups", inPlace := ["internal/bytealg.IndexByteString"], recurses := true, apart := false }
def FnCountGroupsSaid : Prop := fnCountGroupsRow.holds Try.pinned (OpenSpec.ofChange fnCountGroupsSpec)

/-- ITS FALSE NEIGHBOUR: 'it returns false'. Refute it at one input. -/
def fnCountGroupsWrong : ChangeSpec := { name := "fnCountGroups", fn := fun _ => fun
  | [d] => { results := [.lit (.bool false)], args := [d] }
  | _ => none }
def FnCountGroupsWrongFalsely : Prop := fnCountGroupsRow.holds Try.pinned (OpenSpec.ofChange fnCountGroupsWrong)

/- THE SECOND FORM. 'bulk': how many values and letters a reading holds, each counted each time it is reached (what is shared counts as often as it is met; a slice's spare places count too). A statement '..UptoSaid' is the law's where the arguments, and the package variables that the reading takes, are together of bulk at most 1048576: NARROWER than '..Said'. Prove '..Said' where nothing that the law and all that it calls make is longer than what came in: it says more and counts as full. Else prove '..UptoSaid'. A law counts once. -/
mutual
def uptoBulk {H : Type} : DataW H → Nat
  | .lit (.string bytes) => bytes.length + 1
  | .lit _ => 1
  | .nil => 1
  | .ptr d => uptoBulk d + 1
  | .slice elems spare => uptoBulkAll elems + uptoBulkAll spare + 1
  | .agg parts => uptoBulkAll parts + 1
  | .iface _ d => uptoBulk d + 1
  | .map entries => uptoBulkEntries entries + 1
  | .held _ => 1
def uptoBulkAll {H : Type} : List (DataW H) → Nat
  | [] => 0
  | d :: r => uptoBulk d + uptoBulkAll r
def uptoBulkEntries {H : Type} : List (Lit × DataW H) → Nat
  | [] => 0
  | x :: r => uptoBulkEntry x + uptoBulkEntries r
def uptoBulkEntry {H : Type} : Lit × DataW H → Nat
  | (.string bytes, d) => bytes.length + uptoBulk d + 1
  | (_, d) => uptoBulk d + 1
 end
def uptoSmall : (H : Type) → List (DataW H) → Bool := fun _ ds => decide (uptoBulkAll ds ≤ 1048576)
def OpenSpec.upto (s : _root_.Go.ChangeSpec) : _root_.Go.OpenSpec := { _root_.Go.OpenSpec.ofChange s with cond := some uptoSmall }

/-- 'laws.FnCatEmpty', WHERE WHAT IT READS IS OF BULK AT MOST 1048576: true; the input reads as it did. -/
def fnCatEmptyUptoRow : OpenClaim := { program := "ytdhdfmmefghijab", sum := "e3536dabb1842bb743970714ece64d112f7a6743434409f66d14a25f40614ff1", func := "loop.example/docalgebra/laws.FnCatEmpty", spec := "fnCatEmpty", inPlace := ["internal/bytealg.IndexByteString"], recurses := true, apart := false, narrowed := true }
def FnCatEmptyUptoSaid : Prop := fnCatEmptyUptoRow.holds Try.pinned (OpenSpec.upto fnCatEmptySpec)

/-- 'laws.FnCatGroups', WHERE WHAT IT READS IS OF BULK AT MOST 1048576: true; the input reads as it did. -/
def fnCatGroupsUptoRow : OpenClaim := { program := "ytdhdfmmefghijab", sum := "e3536dabb1842bb743970714ece64d112f7a6743434409f66d14a25f40614ff1", func := "loop.example/docalgebra/laws.FnCatGroups", spec := "fnCatGroups", inPlace := ["internal/bytealg.IndexByteString"], recurses := true, apart := false, narrowed := true }
def FnCatGroupsUptoSaid : Prop := fnCatGroupsUptoRow.holds Try.pinned (OpenSpec.upto fnCatGroupsSpec)

/-- 'laws.FnCatLayouts', WHERE WHAT IT READS IS OF BULK AT MOST 1048576: true; the input reads as it did. -/
def fnCatLayoutsUptoRow : OpenClaim := { program := "ytdhdfmmefghijab", sum := "e3536dabb1842bb743970714ece64d112f7a6743434409f66d14a25f40614ff1", func := "loop.example/docalgebra/laws.FnCatLayouts", spec := "fnCatLayouts", inPlace := ["internal/bytealg.IndexByteString"], recurses := true, apart := false, narrowed := true }
def FnCatLayoutsUptoSaid : Prop := fnCatLayoutsUptoRow.holds Try.pinned (OpenSpec.upto fnCatLayoutsSpec)

/-- 'laws.FnNestLayout', WHERE WHAT IT READS IS OF BULK AT MOST 1048576: true; the input reads as it did. -/
def fnNestLayoutUptoRow : OpenClaim := { program := "ytdhdfmmefghijab", sum := "e3536dabb1842bb743970714ece64d112f7a6743434409f66d14a25f40614ff1", func := "loop.example/docalgebra/laws.FnNestLayout", spec := "fnNestLayout", inPlace := ["internal/bytealg.IndexByteString"], recurses := true, apart := false, narrowed := true }
def FnNestLayoutUptoSaid : Prop := fnNestLayoutUptoRow.holds Try.pinned (OpenSpec.upto fnNestLayoutSpec)

/-- 'laws.FnNestZero', WHERE WHAT IT READS IS OF BULK AT MOST 1048576: true; the input reads as it did. -/
def fnNestZeroUptoRow : OpenClaim := { program := "ytdhdfmmefghijab", sum := "e3536dabb1842bb743970714ece64d112f7a6743434409f66d14a25f40614ff1", func := "loop.example/docalgebra/laws.FnNestZero", spec := "fnNestZero", inPlace := ["internal/bytealg.IndexByteString"], recurses := true, apart := false, narrowed := true }
def FnNestZeroUptoSaid : Prop := fnNestZeroUptoRow.holds Try.pinned (OpenSpec.upto fnNestZeroSpec)

/-- 'laws.FnNestCat', WHERE WHAT IT READS IS OF BULK AT MOST 1048576: true; the input reads as it did. -/
def fnNestCatUptoRow : OpenClaim := { program := "ytdhdfmmefghijab", sum := "e3536dabb1842bb743970714ece64d112f7a6743434409f66d14a25f40614ff1", func := "loop.example/docalgebra/laws.FnNestCat", spec := "fnNestCat", inPlace := ["internal/bytealg.IndexByteString"], recurses := true, apart := false, narrowed := true }
def FnNestCatUptoSaid : Prop := fnNestCatUptoRow.holds Try.pinned (OpenSpec.upto fnNestCatSpec)

/-- 'laws.FnOpenNest', WHERE WHAT IT READS IS OF BULK AT MOST 1048576: true; the input reads as it did. -/
def fnOpenNestUptoRow : OpenClaim := { program := "ytdhdfmmefghijab", sum := "e3536dabb1842bb743970714ece64d112f7a6743434409f66d14a25f40614ff1", func := "loop.example/docalgebra/laws.FnOpenNest", spec := "fnOpenNest", inPlace := ["internal/bytealg.IndexByteString"], recurses := true, apart := false, narrowed := true }
def FnOpenNestUptoSaid : Prop := fnOpenNestUptoRow.holds Try.pinned (OpenSpec.upto fnOpenNestSpec)

/-- 'laws.FnOpenLayout', WHERE WHAT IT READS IS OF BULK AT MOST 1048576: true; the input reads as it did. -/
def fnOpenLayoutUptoRow : OpenClaim := { program := "ytdhdfmmefghijab", sum := "e3536dabb1842bb743970714ece64d112f7a6743434409f66d14a25f40614ff1", func := "loop.example/docalgebra/laws.FnOpenLayout", spec := "fnOpenLayout", inPlace := ["internal/bytealg.IndexByteString"], recurses := true, apart := false, narrowed := true }
def FnOpenLayoutUptoSaid : Prop := fnOpenLayoutUptoRow.holds Try.pinned (OpenSpec.upto fnOpenLayoutSpec)

/-- 'laws.FnLayoutSame', WHERE WHAT IT READS IS OF BULK AT MOST 1048576: true; the input reads as it did. -/
def fnLayoutSameUptoRow : OpenClaim := { program := "ytdhdfmmefghijab", sum := "e3536dabb1842bb743970714ece64d112f7a6743434409f66d14a25f40614ff1", func := "loop.example/docalgebra/laws.FnLayoutSame", spec := "fnLayoutSame", inPlace := ["internal/bytealg.IndexByteString", "internal/abi.NoEscape", "internal/bytealg.MakeNoZero"], recurses := true, apart := false, narrowed := true }
def FnLayoutSameUptoSaid : Prop := fnLayoutSameUptoRow.holds Try.pinned (OpenSpec.upto fnLayoutSameSpec)

/-- 'laws.FnOverflowSum', WHERE WHAT IT READS IS OF BULK AT MOST 1048576: true; the input reads as it did. -/
def fnOverflowSumUptoRow : OpenClaim := { program := "ytdhdfmmefghijab", sum := "e3536dabb1842bb743970714ece64d112f7a6743434409f66d14a25f40614ff1", func := "loop.example/docalgebra/laws.FnOverflowSum", spec := "fnOverflowSum", inPlace := ["internal/bytealg.IndexByteString", "internal/abi.NoEscape", "internal/bytealg.MakeNoZero"], recurses := true, apart := false, narrowed := true }
def FnOverflowSumUptoSaid : Prop := fnOverflowSumUptoRow.holds Try.pinned (OpenSpec.upto fnOverflowSumSpec)

/-- 'laws.FnLayoutWidth', WHERE WHAT IT READS IS OF BULK AT MOST 1048576: true; the input reads as it did. -/
def fnLayoutWidthUptoRow : OpenClaim := { program := "ytdhdfmmefghijab", sum := "e3536dabb1842bb743970714ece64d112f7a6743434409f66d14a25f40614ff1", func := "loop.example/docalgebra/laws.FnLayoutWidth", spec := "fnLayoutWidth", inPlace := ["internal/bytealg.IndexByteString", "internal/abi.NoEscape", "internal/bytealg.MakeNoZero"], recurses := true, apart := false, narrowed := true }
def FnLayoutWidthUptoSaid : Prop := fnLayoutWidthUptoRow.holds Try.pinned (OpenSpec.upto fnLayoutWidthSpec)

/-- 'laws.FnCountGroups', WHERE WHAT IT READS IS OF BULK AT MOST 1048576: true; the input reads as it did. -/
def fnCountGroupsUptoRow : OpenClaim := { program := "ytdhdfmmefghijab", sum := "e3536dabb1842bb743970714ece64d112f7a6743434409f66d14a25f40614ff1", func := "loop.example/docalgebra/laws.FnCountGroups", spec := "fnCountGroups", inPlace := ["internal/bytealg.IndexByteString"], recurses := true, apart := false, narrowed := true }
def FnCountGroupsUptoSaid : Prop := fnCountGroupsUptoRow.holds Try.pinned (OpenSpec.upto fnCountGroupsSpec)

end Rows
end Go.Proofs.Ytdhdfmmefghijab
