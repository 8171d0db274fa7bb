/-
  NARROWER THAN 'FOR EVERY INPUT', by the rows' own cells (each row's printed sentence says how): FnExactDocSize: loops · FnExactCountOps: loops · FnExactDocSame: loops.
  DERIVED. THE GIVEN ROWS OF THIS SEAT. 12 by the template 'for every input the law returns true; each argument reads behind the call as it read before'; 0 by the template 'total and deterministic' (their statements: YtbijachmecgpgaaTotals.lean).
  GIVEN WITH THE SEED: the statements are not yours to turn. If you find one false, say at which input.
  Laid BY PROGRAM, IN A SANDBOX (cutbox-rows.mjs): the forced cells as the released guide's own fill.sh prints them over the translation 54933a7c83a5c6f6… (all of the seat's roots in one cut). By AI agents, Wed Nov 11 2026. No macro, syntax, notation, axiom, sorry.
-/
import Derived.Test.YtbijachmecgpgaaChecked
import GoSem.Claim
import GoSem.ClaimJoined
import GoSem.ClaimMapViews
import Derived.JoinedTies
import Derived.KernelRfl
namespace Go.Proofs.Ytbijachmecgpgaa
/- THE CELL 'sum', in the pinned program and in every row, IS THE sha256 OF THE DUMP (.gsa) THAT YtbijachmecgpgaaProg.lean LOADS. Nothing in Lean hashes anything: it is a label: what it is worth is what the hold of that sum in a sandbox is worth. -/
noncomputable def Try.pinned : Pinned := { name := "ytbijachmecgpgaa", sum := "54933a7c83a5c6f6f91a663b47a52d9aa4cbbd009bc47b571f78ac017dc91a16", checked := Try.checked }
namespace Rows
def none {H : Type} : Left H := { results := [], args := [] }

/-- 'laws.FnExactConstants': WHATEVER THE INPUT: true; the input reads as it did. -/
def fnExactConstantsSpec : ChangeSpec := { name := "fnExactConstants", fn := fun _ => fun
  | [] => { results := [.lit (.bool true)], args := [] }
  | _ => none }
def fnExactConstantsRow : OpenClaim := { program := "ytbijachmecgpgaa", sum := "54933a7c83a5c6f6f91a663b47a52d9aa4cbbd009bc47b571f78ac017dc91a16", func := "loop.example/docalgebra/laws.FnExactConstants", spec := "fnExactConstants", apart := false }
def FnExactConstantsSaid : Prop := fnExactConstantsRow.holds Try.pinned (OpenSpec.ofChange fnExactConstantsSpec)

/-- ITS FALSE NEIGHBOUR: 'it returns false'. Refute it at one input. -/
def fnExactConstantsWrong : ChangeSpec := { name := "fnExactConstants", fn := fun _ => fun
  | [] => { results := [.lit (.bool false)], args := [] }
  | _ => none }
def FnExactConstantsWrongFalsely : Prop := fnExactConstantsRow.holds Try.pinned (OpenSpec.ofChange fnExactConstantsWrong)

/-- 'laws.FnExactTextValid': WHATEVER THE INPUT: true; the input reads as it did. -/
def fnExactTextValidSpec : ChangeSpec := { name := "fnExactTextValid", fn := fun _ => fun
  | [d] => { results := [.lit (.bool true)], args := [d] }
  | _ => none }
def fnExactTextValidRow : OpenClaim := { program := "ytbijachmecgpgaa", sum := "54933a7c83a5c6f6f91a663b47a52d9aa4cbbd009bc47b571f78ac017dc91a16", func := "loop.example/docalgebra/laws.FnExactTextValid", spec := "fnExactTextValid", inPlace := ["internal/bytealg.IndexByteString"], apart := false }
def FnExactTextValidSaid : Prop := fnExactTextValidRow.holds Try.pinned (OpenSpec.ofChange fnExactTextValidSpec)

/-- ITS FALSE NEIGHBOUR: 'it returns false'. Refute it at one input. -/
def fnExactTextValidWrong : ChangeSpec := { name := "fnExactTextValid", fn := fun _ => fun
  | [d] => { results := [.lit (.bool false)], args := [d] }
  | _ => none }
def FnExactTextValidWrongFalsely : Prop := fnExactTextValidRow.holds Try.pinned (OpenSpec.ofChange fnExactTextValidWrong)

/-- 'laws.FnExactLayoutSame': WHATEVER THE INPUT: true; the input reads as it did. -/
def fnExactLayoutSameSpec : ChangeSpec := { name := "fnExactLayoutSame", fn := fun _ => fun
  | [d1, d2] => { results := [.lit (.bool true)], args := [d1, d2] }
  | _ => none }
def fnExactLayoutSameRow : OpenClaim := { program := "ytbijachmecgpgaa", sum := "54933a7c83a5c6f6f91a663b47a52d9aa4cbbd009bc47b571f78ac017dc91a16", func := "loop.example/docalgebra/laws.FnExactLayoutSame", spec := "fnExactLayoutSame", apart := false }
def FnExactLayoutSameSaid : Prop := fnExactLayoutSameRow.holds Try.pinned (OpenSpec.ofChange fnExactLayoutSameSpec)

/-- ITS FALSE NEIGHBOUR: 'it returns false'. Refute it at one input. -/
def fnExactLayoutSameWrong : ChangeSpec := { name := "fnExactLayoutSame", fn := fun _ => fun
  | [d1, d2] => { results := [.lit (.bool false)], args := [d1, d2] }
  | _ => none }
def FnExactLayoutSameWrongFalsely : Prop := fnExactLayoutSameRow.holds Try.pinned (OpenSpec.ofChange fnExactLayoutSameWrong)

/-- 'laws.FnExactDocSize': WHATEVER THE INPUT: true; the input reads as it did. -/
def fnExactDocSizeSpec : ChangeSpec := { name := "fnExactDocSize", fn := fun _ => fun
  | [d] => { results := [.lit (.bool true)], args := [d] }
  | _ => none }
def fnExactDocSizeRow : OpenClaim := { program := "ytbijachmecgpgaa", sum := "54933a7c83a5c6f6f91a663b47a52d9aa4cbbd009bc47b571f78ac017dc91a16", func := "loop.example/docalgebra/laws.FnExactDocSize", spec := "fnExactDocSize", recurses := true, loops := true, apart := false }
def FnExactDocSizeSaid : Prop := fnExactDocSizeRow.holds Try.pinned (OpenSpec.ofChange fnExactDocSizeSpec)

/-- ITS FALSE NEIGHBOUR: 'it returns false'. Refute it at one input. -/
def fnExactDocSizeWrong : ChangeSpec := { name := "fnExactDocSize", fn := fun _ => fun
  | [d] => { results := [.lit (.bool false)], args := [d] }
  | _ => none }
def FnExactDocSizeWrongFalsely : Prop := fnExactDocSizeRow.holds Try.pinned (OpenSpec.ofChange fnExactDocSizeWrong)

/-- 'laws.FnExactCountOps': WHATEVER THE INPUT: true; the input reads as it did. -/
def fnExactCountOpsSpec : ChangeSpec := { name := "fnExactCountOps", fn := fun _ => fun
  | [d1, d2] => { results := [.lit (.bool true)], args := [d1, d2] }
  | _ => none }
def fnExactCountOpsRow : OpenClaim := { program := "ytbijachmecgpgaa", sum := "54933a7c83a5c6f6f91a663b47a52d9aa4cbbd009bc47b571f78ac017dc91a16", func := "loop.example/docalgebra/laws.FnExactCountOps", spec := "fnExactCountOps", recurses := true, loops := true, apart := false }
def FnExactCountOpsSaid : Prop := fnExactCountOpsRow.holds Try.pinned (OpenSpec.ofChange fnExactCountOpsSpec)

/-- ITS FALSE NEIGHBOUR: 'it returns false'. Refute it at one input. -/
def fnExactCountOpsWrong : ChangeSpec := { name := "fnExactCountOps", fn := fun _ => fun
  | [d1, d2] => { results := [.lit (.bool false)], args := [d1, d2] }
  | _ => none }
def FnExactCountOpsWrongFalsely : Prop := fnExactCountOpsRow.holds Try.pinned (OpenSpec.ofChange fnExactCountOpsWrong)

/-- 'laws.FnExactDocSame': WHATEVER THE INPUT: true; the input reads as it did. -/
def fnExactDocSameSpec : ChangeSpec := { name := "fnExactDocSame", fn := fun _ => fun
  | [d1, d2] => { results := [.lit (.bool true)], args := [d1, d2] }
  | _ => none }
def fnExactDocSameRow : OpenClaim := { program := "ytbijachmecgpgaa", sum := "54933a7c83a5c6f6f91a663b47a52d9aa4cbbd009bc47b571f78ac017dc91a16", func := "loop.example/docalgebra/laws.FnExactDocSame", spec := "fnExactDocSame", recurses := true, loops := true, apart := false }
def FnExactDocSameSaid : Prop := fnExactDocSameRow.holds Try.pinned (OpenSpec.ofChange fnExactDocSameSpec)

/-- ITS FALSE NEIGHBOUR: 'it returns false'. Refute it at one input. -/
def fnExactDocSameWrong : ChangeSpec := { name := "fnExactDocSame", fn := fun _ => fun
  | [d1, d2] => { results := [.lit (.bool false)], args := [d1, d2] }
  | _ => none }
def FnExactDocSameWrongFalsely : Prop := fnExactDocSameRow.holds Try.pinned (OpenSpec.ofChange fnExactDocSameWrong)

/-- 'laws.FnExactLayoutValid': WHATEVER THE INPUT: true; the input reads as it did. -/
def fnExactLayoutValidSpec : ChangeSpec := { name := "fnExactLayoutValid", fn := fun _ => fun
  | [d] => { results := [.lit (.bool true)], args := [d] }
  | _ => none }
def fnExactLayoutValidRow : OpenClaim := { program := "ytbijachmecgpgaa", sum := "54933a7c83a5c6f6f91a663b47a52d9aa4cbbd009bc47b571f78ac017dc91a16", func := "loop.example/docalgebra/laws.FnExactLayoutValid", spec := "fnExactLayoutValid", inPlace := ["internal/bytealg.IndexByteString"], apart := false }
def FnExactLayoutValidSaid : Prop := fnExactLayoutValidRow.holds Try.pinned (OpenSpec.ofChange fnExactLayoutValidSpec)

/-- ITS FALSE NEIGHBOUR: 'it returns false'. Refute it at one input. -/
def fnExactLayoutValidWrong : ChangeSpec := { name := "fnExactLayoutValid", fn := fun _ => fun
  | [d] => { results := [.lit (.bool false)], args := [d] }
  | _ => none }
def FnExactLayoutValidWrongFalsely : Prop := fnExactLayoutValidRow.holds Try.pinned (OpenSpec.ofChange fnExactLayoutValidWrong)

/-- 'laws.FnExactLayoutWidth': WHATEVER THE INPUT: true; the input reads as it did. -/
def fnExactLayoutWidthSpec : ChangeSpec := { name := "fnExactLayoutWidth", fn := fun _ => fun
  | [d] => { results := [.lit (.bool true)], args := [d] }
  | _ => none }
def fnExactLayoutWidthRow : OpenClaim := { program := "ytbijachmecgpgaa", sum := "54933a7c83a5c6f6f91a663b47a52d9aa4cbbd009bc47b571f78ac017dc91a16", func := "loop.example/docalgebra/laws.FnExactLayoutWidth", spec := "fnExactLayoutWidth", inPlace := ["internal/bytealg.IndexByteString"], apart := false }
def FnExactLayoutWidthSaid : Prop := fnExactLayoutWidthRow.holds Try.pinned (OpenSpec.ofChange fnExactLayoutWidthSpec)

/-- ITS FALSE NEIGHBOUR: 'it returns false'. Refute it at one input. -/
def fnExactLayoutWidthWrong : ChangeSpec := { name := "fnExactLayoutWidth", fn := fun _ => fun
  | [d] => { results := [.lit (.bool false)], args := [d] }
  | _ => none }
def FnExactLayoutWidthWrongFalsely : Prop := fnExactLayoutWidthRow.holds Try.pinned (OpenSpec.ofChange fnExactLayoutWidthWrong)

/-- 'laws.FnExactOverflow': WHATEVER THE INPUT: true; the input reads as it did. -/
def fnExactOverflowSpec : ChangeSpec := { name := "fnExactOverflow", fn := fun _ => fun
  | [d1, d2] => { results := [.lit (.bool true)], args := [d1, d2] }
  | _ => none }
def fnExactOverflowRow : OpenClaim := { program := "ytbijachmecgpgaa", sum := "54933a7c83a5c6f6f91a663b47a52d9aa4cbbd009bc47b571f78ac017dc91a16", func := "loop.example/docalgebra/laws.FnExactOverflow", spec := "fnExactOverflow", inPlace := ["internal/bytealg.IndexByteString"], apart := false }
def FnExactOverflowSaid : Prop := fnExactOverflowRow.holds Try.pinned (OpenSpec.ofChange fnExactOverflowSpec)

/-- ITS FALSE NEIGHBOUR: 'it returns false'. Refute it at one input. -/
def fnExactOverflowWrong : ChangeSpec := { name := "fnExactOverflow", fn := fun _ => fun
  | [d1, d2] => { results := [.lit (.bool false)], args := [d1, d2] }
  | _ => none }
def FnExactOverflowWrongFalsely : Prop := fnExactOverflowRow.holds Try.pinned (OpenSpec.ofChange fnExactOverflowWrong)

/-- 'laws.FnExactCatLayouts': WHATEVER THE INPUT: true; the input reads as it did. -/
def fnExactCatLayoutsSpec : ChangeSpec := { name := "fnExactCatLayouts", fn := fun _ => fun
  | [d1, d2] => { results := [.lit (.bool true)], args := [d1, d2] }
  | _ => none }
def fnExactCatLayoutsRow : OpenClaim := { program := "ytbijachmecgpgaa", sum := "54933a7c83a5c6f6f91a663b47a52d9aa4cbbd009bc47b571f78ac017dc91a16", func := "loop.example/docalgebra/laws.FnExactCatLayouts", spec := "fnExactCatLayouts", inPlace := ["internal/bytealg.IndexByteString"], apart := false }
def FnExactCatLayoutsSaid : Prop := fnExactCatLayoutsRow.holds Try.pinned (OpenSpec.ofChange fnExactCatLayoutsSpec)

/-- ITS FALSE NEIGHBOUR: 'it returns false'. Refute it at one input. -/
def fnExactCatLayoutsWrong : ChangeSpec := { name := "fnExactCatLayouts", fn := fun _ => fun
  | [d1, d2] => { results := [.lit (.bool false)], args := [d1, d2] }
  | _ => none }
def FnExactCatLayoutsWrongFalsely : Prop := fnExactCatLayoutsRow.holds Try.pinned (OpenSpec.ofChange fnExactCatLayoutsWrong)

/-- 'laws.FnExactNestLayout': WHATEVER THE INPUT: true; the input reads as it did. -/
def fnExactNestLayoutSpec : ChangeSpec := { name := "fnExactNestLayout", fn := fun _ => fun
  | [d1, d2] => { results := [.lit (.bool true)], args := [d1, d2] }
  | _ => none }
def fnExactNestLayoutRow : OpenClaim := { program := "ytbijachmecgpgaa", sum := "54933a7c83a5c6f6f91a663b47a52d9aa4cbbd009bc47b571f78ac017dc91a16", func := "loop.example/docalgebra/laws.FnExactNestLayout", spec := "fnExactNestLayout", inPlace := ["internal/bytealg.IndexByteString"], apart := false }
def FnExactNestLayoutSaid : Prop := fnExactNestLayoutRow.holds Try.pinned (OpenSpec.ofChange fnExactNestLayoutSpec)

/-- ITS FALSE NEIGHBOUR: 'it returns false'. Refute it at one input. -/
def fnExactNestLayoutWrong : ChangeSpec := { name := "fnExactNestLayout", fn := fun _ => fun
  | [d1, d2] => { results := [.lit (.bool false)], args := [d1, d2] }
  | _ => none }
def FnExactNestLayoutWrongFalsely : Prop := fnExactNestLayoutRow.holds Try.pinned (OpenSpec.ofChange fnExactNestLayoutWrong)

/-- 'laws.FnExactLayoutText': WHATEVER THE INPUT: true; the input reads as it did. -/
def fnExactLayoutTextSpec : ChangeSpec := { name := "fnExactLayoutText", fn := fun _ => fun
  | [d] => { results := [.lit (.bool true)], args := [d] }
  | _ => none }
def fnExactLayoutTextRow : OpenClaim := { program := "ytbijachmecgpgaa", sum := "54933a7c83a5c6f6f91a663b47a52d9aa4cbbd009bc47b571f78ac017dc91a16", func := "loop.example/docalgebra/laws.FnExactLayoutText", spec := "fnExactLayoutText", inPlace := ["internal/bytealg.IndexByteString", "internal/abi.NoEscape", "internal/bytealg.MakeNoZero"], apart := false }
def FnExactLayoutTextSaid : Prop := fnExactLayoutTextRow.holds Try.pinned (OpenSpec.ofChange fnExactLayoutTextSpec)

/-- ITS FALSE NEIGHBOUR: 'it returns false'. Refute it at one input. -/
def fnExactLayoutTextWrong : ChangeSpec := { name := "fnExactLayoutText", fn := fun _ => fun
  | [d] => { results := [.lit (.bool false)], args := [d] }
  | _ => none }
def FnExactLayoutTextWrongFalsely : Prop := fnExactLayoutTextRow.holds Try.pinned (OpenSpec.ofChange fnExactLayoutTextWrong)

/- THE SECOND FORM. 'bulk': how many values and letters a reading holds, each counted each time it is reached (what is shared counts as often as it is met; a slice's spare places count too). A statement '..UptoSaid' is the law's where the arguments, and the package variables that the reading takes, are together of bulk at most 1048576: NARROWER than '..Said'. Prove '..Said' where nothing that the law and all that it calls make is longer than what came in: it says more and counts as full. Else prove '..UptoSaid'. A law counts once. -/
mutual
def uptoBulk {H : Type} : DataW H → Nat
  | .lit (.string bytes) => bytes.length + 1
  | .lit _ => 1
  | .nil => 1
  | .ptr d => uptoBulk d + 1
  | .slice elems spare => uptoBulkAll elems + uptoBulkAll spare + 1
  | .agg parts => uptoBulkAll parts + 1
  | .iface _ d => uptoBulk d + 1
  | .map entries => uptoBulkEntries entries + 1
  | .held _ => 1
def uptoBulkAll {H : Type} : List (DataW H) → Nat
  | [] => 0
  | d :: r => uptoBulk d + uptoBulkAll r
def uptoBulkEntries {H : Type} : List (Lit × DataW H) → Nat
  | [] => 0
  | x :: r => uptoBulkEntry x + uptoBulkEntries r
def uptoBulkEntry {H : Type} : Lit × DataW H → Nat
  | (.string bytes, d) => bytes.length + uptoBulk d + 1
  | (_, d) => uptoBulk d + 1
 end
def uptoSmall : (H : Type) → List (DataW H) → Bool := fun _ ds => decide (uptoBulkAll ds ≤ 1048576)
def OpenSpec.upto (s : _root_.Go.ChangeSpec) : _root_.Go.OpenSpec := { _root_.Go.OpenSpec.ofChange s with cond := some uptoSmall }

/-- 'laws.FnExactConstants', WHERE WHAT IT READS IS OF BULK AT MOST 1048576: true; the input reads as it did. -/
def fnExactConstantsUptoRow : OpenClaim := { program := "ytbijachmecgpgaa", sum := "54933a7c83a5c6f6f91a663b47a52d9aa4cbbd009bc47b571f78ac017dc91a16", func := "loop.example/docalgebra/laws.FnExactConstants", spec := "fnExactConstants", apart := false, narrowed := true }
def FnExactConstantsUptoSaid : Prop := fnExactConstantsUptoRow.holds Try.pinned (OpenSpec.upto fnExactConstantsSpec)

/-- 'laws.FnExactTextValid', WHERE WHAT IT READS IS OF BULK AT MOST 1048576: true; the input reads as it did. -/
def fnExactTextValidUptoRow : OpenClaim := { program := "ytbijachmecgpgaa", sum := "54933a7c83a5c6f6f91a663b47a52d9aa4cbbd009bc47b571f78ac017dc91a16", func := "loop.example/docalgebra/laws.FnExactTextValid", spec := "fnExactTextValid", inPlace := ["internal/bytealg.IndexByteString"], apart := false, narrowed := true }
def FnExactTextValidUptoSaid : Prop := fnExactTextValidUptoRow.holds Try.pinned (OpenSpec.upto fnExactTextValidSpec)

/-- 'laws.FnExactLayoutSame', WHERE WHAT IT READS IS OF BULK AT MOST 1048576: true; the input reads as it did. -/
def fnExactLayoutSameUptoRow : OpenClaim := { program := "ytbijachmecgpgaa", sum := "54933a7c83a5c6f6f91a663b47a52d9aa4cbbd009bc47b571f78ac017dc91a16", func := "loop.example/docalgebra/laws.FnExactLayoutSame", spec := "fnExactLayoutSame", apart := false, narrowed := true }
def FnExactLayoutSameUptoSaid : Prop := fnExactLayoutSameUptoRow.holds Try.pinned (OpenSpec.upto fnExactLayoutSameSpec)

/-- 'laws.FnExactDocSize', WHERE WHAT IT READS IS OF BULK AT MOST 1048576: true; the input reads as it did. -/
def fnExactDocSizeUptoRow : OpenClaim := { program := "ytbijachmecgpgaa", sum := "54933a7c83a5c6f6f91a663b47a52d9aa4cbbd009bc47b571f78ac017dc91a16", func := "loop.example/docalgebra/laws.FnExactDocSize", spec := "fnExactDocSize", recurses := true, loops := true, apart := false, narrowed := true }
def FnExactDocSizeUptoSaid : Prop := fnExactDocSizeUptoRow.holds Try.pinned (OpenSpec.upto fnExactDocSizeSpec)

/-- 'laws.FnExactCountOps', WHERE WHAT IT READS IS OF BULK AT MOST 1048576: true; the input reads as it did. -/
def fnExactCountOpsUptoRow : OpenClaim := { program := "ytbijachmecgpgaa", sum := "54933a7c83a5c6f6f91a663b47a52d9aa4cbbd009bc47b571f78ac017dc91a16", func := "loop.example/docalgebra/laws.FnExactCountOps", spec := "fnExactCountOps", recurses := true, loops := true, apart := false, narrowed := true }
def FnExactCountOpsUptoSaid : Prop := fnExactCountOpsUptoRow.holds Try.pinned (OpenSpec.upto fnExactCountOpsSpec)

/-- 'laws.FnExactDocSame', WHERE WHAT IT READS IS OF BULK AT MOST 1048576: true; the input reads as it did. -/
def fnExactDocSameUptoRow : OpenClaim := { program := "ytbijachmecgpgaa", sum := "54933a7c83a5c6f6f91a663b47a52d9aa4cbbd009bc47b571f78ac017dc91a16", func := "loop.example/docalgebra/laws.FnExactDocSame", spec := "fnExactDocSame", recurses := true, loops := true, apart := false, narrowed := true }
def FnExactDocSameUptoSaid : Prop := fnExactDocSameUptoRow.holds Try.pinned (OpenSpec.upto fnExactDocSameSpec)

/-- 'laws.FnExactLayoutValid', WHERE WHAT IT READS IS OF BULK AT MOST 1048576: true; the input reads as it did. -/
def fnExactLayoutValidUptoRow : OpenClaim := { program := "ytbijachmecgpgaa", sum := "54933a7c83a5c6f6f91a663b47a52d9aa4cbbd009bc47b571f78ac017dc91a16", func := "loop.example/docalgebra/laws.FnExactLayoutValid", spec := "fnExactLayoutValid", inPlace := ["internal/bytealg.IndexByteString"], apart := false, narrowed := true }
def FnExactLayoutValidUptoSaid : Prop := fnExactLayoutValidUptoRow.holds Try.pinned (OpenSpec.upto fnExactLayoutValidSpec)

/-- 'laws.FnExactLayoutWidth', WHERE WHAT IT READS IS OF BULK AT MOST 1048576: true; the input reads as it did. -/
def fnExactLayoutWidthUptoRow : OpenClaim := { program := "ytbijachmecgpgaa", sum := "54933a7c83a5c6f6f91a663b47a52d9aa4cbbd009bc47b571f78ac017dc91a16", func := "loop.example/docalgebra/laws.FnExactLayoutWidth", spec := "fnExactLayoutWidth", inPlace := ["internal/bytealg.IndexByteString"], apart := false, narrowed := true }
def FnExactLayoutWidthUptoSaid : Prop := fnExactLayoutWidthUptoRow.holds Try.pinned (OpenSpec.upto fnExactLayoutWidthSpec)

/-- 'laws.FnExactOverflow', WHERE WHAT IT READS IS OF BULK AT MOST 1048576: true; the input reads as it did. -/
def fnExactOverflowUptoRow : OpenClaim := { program := "ytbijachmecgpgaa", sum := "54933a7c83a5c6f6f91a663b47a52d9aa4cbbd009bc47b571f78ac017dc91a16", func := "loop.example/docalgebra/laws.FnExactOverflow", spec := "fnExactOverflow", inPlace := ["internal/bytealg.IndexByteString"], apart := false, narrowed := true }
def FnExactOverflowUptoSaid : Prop := fnExactOverflowUptoRow.holds Try.pinned (OpenSpec.upto fnExactOverflowSpec)

/-- 'laws.FnExactCatLayouts', WHERE WHAT IT READS IS OF BULK AT MOST 1048576: true; the input reads as it did. -/
def fnExactCatLayoutsUptoRow : OpenClaim := { program := "ytbijachmecgpgaa", sum := "54933a7c83a5c6f6f91a663b47a52d9aa4cbbd009bc47b571f78ac017dc91a16", func := "loop.example/docalgebra/laws.FnExactCatLayouts", spec := "fnExactCatLayouts", inPlace := ["internal/bytealg.IndexByteString"], apart := false, narrowed := true }
def FnExactCatLayoutsUptoSaid : Prop := fnExactCatLayoutsUptoRow.holds Try.pinned (OpenSpec.upto fnExactCatLayoutsSpec)

/-- 'laws.FnExactNestLayout', WHERE WHAT IT READS IS OF BULK AT MOST 1048576: true; the input reads as it did. -/
def fnExactNestLayoutUptoRow : OpenClaim := { program := "ytbijachmecgpgaa", sum := "54933a7c83a5c6f6f91a663b47a52d9aa4cbbd009bc47b571f78ac017dc91a16", func := "loop.example/docalgebra/laws.FnExactNestLayout", spec := "fnExactNestLayout", inPlace := ["internal/bytealg.IndexByteString"], apart := false, narrowed := true }
def FnExactNestLayoutUptoSaid : Prop := fnExactNestLayoutUptoRow.holds Try.pinned (OpenSpec.upto fnExactNestLayoutSpec)

/-- 'laws.FnExactLayoutText', WHERE WHAT IT READS IS OF BULK AT MOST 1048576: true; the input reads as it did. -/
def fnExactLayoutTextUptoRow : OpenClaim := { program := "ytbijachmecgpgaa", sum := "54933a7c83a5c6f6f91a663b47a52d9aa4cbbd009bc47b571f78ac017dc91a16", func := "loop.example/docalgebra/laws.FnExactLayoutText", spec := "fnExactLayoutText", inPlace := ["internal/bytealg.IndexByteString", "internal/abi.NoEscape", "internal/bytealg.MakeNoZero"], apart := false, narrowed := true }
def FnExactLayoutTextUptoSaid : Prop := fnExactLayoutTextUptoRow.holds Try.pinned (OpenSpec.upto fnExactLayoutTextSpec)

end Rows
end Go.Proofs.Ytbijachmecgpgaa
