/-
  NARROWER THAN 'FOR EVERY INPUT', by the rows' own cells (each row's printed sentence says how): FnExactFormatDoc: loops · FnExactCountChoices: loops · FnExactCatDocs: loops · FnExactOpenLayout: loops · FnExactChoiceOf: loops · FnExactLayoutsOf: loops · FnExactHasLayout: loops · FnExactShortest: loops · FnExactDistinctLayouts: loops · FnExactNarrowest: loops.
  DERIVED. THE GIVEN ROWS OF THIS SEAT. 12 by the template 'for every input the law returns true; each argument reads behind the call as it read before'; 0 by the template 'total and deterministic' (their statements: YtmccfpniolikhaaTotals.lean).
  GIVEN WITH THE SEED: the statements are not yours to turn. If you find one false, say at which input.
  Laid BY PROGRAM, IN A SANDBOX (cutbox-rows.mjs): the forced cells as the released guide's own fill.sh prints them over the translation db802bb7c1918204… (all of the seat's roots in one cut). By AI agents, Wed Nov 11 2026. No macro, syntax, notation, axiom, sorry.
-/
import Derived.Test.YtmccfpniolikhaaChecked
import GoSem.Claim
import GoSem.ClaimJoined
import GoSem.ClaimMapViews
import Derived.JoinedTies
import Derived.KernelRfl
namespace Go.Proofs.Ytmccfpniolikhaa
/- THE CELL 'sum', in the pinned program and in every row, IS THE sha256 OF THE DUMP (.gsa) THAT YtmccfpniolikhaaProg.lean LOADS. Nothing in Lean hashes anything: it is a label: what it is worth is what the hold of that sum in a sandbox is worth. -/
noncomputable def Try.pinned : Pinned := { name := "ytmccfpniolikhaa", sum := "db802bb7c1918204d705169fc14c195197e79439ef9b9a1222054a3278a8be85", checked := Try.checked }
namespace Rows
def none {H : Type} : Left H := { results := [], args := [] }

/-- 'laws.FnExactFormatDoc': WHATEVER THE INPUT: true; the input reads as it did. -/
def fnExactFormatDocSpec : ChangeSpec := { name := "fnExactFormatDoc", fn := fun _ => fun
  | [d] => { results := [.lit (.bool true)], args := [d] }
  | _ => none }
def fnExactFormatDocRow : OpenClaim := { program := "ytmccfpniolikhaa", sum := "db802bb7c1918204d705169fc14c195197e79439ef9b9a1222054a3278a8be85", func := "loop.example/docalgebra/laws.FnExactFormatDoc", spec := "fnExactFormatDoc", inPlace := ["internal/bytealg.IndexByteString"], recurses := true, loops := true, apart := false }
def FnExactFormatDocSaid : Prop := fnExactFormatDocRow.holds Try.pinned (OpenSpec.ofChange fnExactFormatDocSpec)

/-- ITS FALSE NEIGHBOUR: 'it returns false'. Refute it at one input. -/
def fnExactFormatDocWrong : ChangeSpec := { name := "fnExactFormatDoc", fn := fun _ => fun
  | [d] => { results := [.lit (.bool false)], args := [d] }
  | _ => none }
def FnExactFormatDocWrongFalsely : Prop := fnExactFormatDocRow.holds Try.pinned (OpenSpec.ofChange fnExactFormatDocWrong)

/-- 'laws.FnExactCountChoices': WHATEVER THE INPUT: true; the input reads as it did. -/
def fnExactCountChoicesSpec : ChangeSpec := { name := "fnExactCountChoices", fn := fun _ => fun
  | [d] => { results := [.lit (.bool true)], args := [d] }
  | _ => none }
def fnExactCountChoicesRow : OpenClaim := { program := "ytmccfpniolikhaa", sum := "db802bb7c1918204d705169fc14c195197e79439ef9b9a1222054a3278a8be85", func := "loop.example/docalgebra/laws.FnExactCountChoices", spec := "fnExactCountChoices", inPlace := ["internal/bytealg.IndexByteString"], recurses := true, loops := true, apart := false }
def FnExactCountChoicesSaid : Prop := fnExactCountChoicesRow.holds Try.pinned (OpenSpec.ofChange fnExactCountChoicesSpec)

/-- ITS FALSE NEIGHBOUR: 'it returns false'. Refute it at one input. -/
def fnExactCountChoicesWrong : ChangeSpec := { name := "fnExactCountChoices", fn := fun _ => fun
  | [d] => { results := [.lit (.bool false)], args := [d] }
  | _ => none }
def FnExactCountChoicesWrongFalsely : Prop := fnExactCountChoicesRow.holds Try.pinned (OpenSpec.ofChange fnExactCountChoicesWrong)

/-- 'laws.FnExactCatDocs': WHATEVER THE INPUT: true; the input reads as it did. -/
def fnExactCatDocsSpec : ChangeSpec := { name := "fnExactCatDocs", fn := fun _ => fun
  | [d1, d2] => { results := [.lit (.bool true)], args := [d1, d2] }
  | _ => none }
def fnExactCatDocsRow : OpenClaim := { program := "ytmccfpniolikhaa", sum := "db802bb7c1918204d705169fc14c195197e79439ef9b9a1222054a3278a8be85", func := "loop.example/docalgebra/laws.FnExactCatDocs", spec := "fnExactCatDocs", inPlace := ["internal/bytealg.IndexByteString"], recurses := true, loops := true, apart := false }
def FnExactCatDocsSaid : Prop := fnExactCatDocsRow.holds Try.pinned (OpenSpec.ofChange fnExactCatDocsSpec)

/-- ITS FALSE NEIGHBOUR: 'it returns false'. Refute it at one input. -/
def fnExactCatDocsWrong : ChangeSpec := { name := "fnExactCatDocs", fn := fun _ => fun
  | [d1, d2] => { results := [.lit (.bool false)], args := [d1, d2] }
  | _ => none }
def FnExactCatDocsWrongFalsely : Prop := fnExactCatDocsRow.holds Try.pinned (OpenSpec.ofChange fnExactCatDocsWrong)

/-- 'laws.FnExactOpenLayout': WHATEVER THE INPUT: true; the input reads as it did. -/
def fnExactOpenLayoutSpec : ChangeSpec := { name := "fnExactOpenLayout", fn := fun _ => fun
  | [d] => { results := [.lit (.bool true)], args := [d] }
  | _ => none }
def fnExactOpenLayoutRow : OpenClaim := { program := "ytmccfpniolikhaa", sum := "db802bb7c1918204d705169fc14c195197e79439ef9b9a1222054a3278a8be85", func := "loop.example/docalgebra/laws.FnExactOpenLayout", spec := "fnExactOpenLayout", inPlace := ["internal/bytealg.IndexByteString"], recurses := true, loops := true, apart := false }
def FnExactOpenLayoutSaid : Prop := fnExactOpenLayoutRow.holds Try.pinned (OpenSpec.ofChange fnExactOpenLayoutSpec)

/-- ITS FALSE NEIGHBOUR: 'it returns false'. Refute it at one input. -/
def fnExactOpenLayoutWrong : ChangeSpec := { name := "fnExactOpenLayout", fn := fun _ => fun
  | [d] => { results := [.lit (.bool false)], args := [d] }
  | _ => none }
def FnExactOpenLayoutWrongFalsely : Prop := fnExactOpenLayoutRow.holds Try.pinned (OpenSpec.ofChange fnExactOpenLayoutWrong)

/-- 'laws.FnExactParseDoc': WHATEVER THE INPUT: true; the input reads as it did. -/
def fnExactParseDocSpec : ChangeSpec := { name := "fnExactParseDoc", fn := fun _ => fun
  | [d] => { results := [.lit (.bool true)], args := [d] }
  | _ => none }
def fnExactParseDocRow : OpenClaim := { program := "ytmccfpniolikhaa", sum := "db802bb7c1918204d705169fc14c195197e79439ef9b9a1222054a3278a8be85", func := "loop.example/docalgebra/laws.FnExactParseDoc", spec := "fnExactParseDoc", inPlace := ["internal/bytealg.IndexByteString", "internal/bytealg.IndexString"], recurses := true, named := ["internal/bytealg.MaxLen"], apart := false }
def FnExactParseDocSaid : Prop := fnExactParseDocRow.holds Try.pinned (OpenSpec.ofChange fnExactParseDocSpec)

/-- ITS FALSE NEIGHBOUR: 'it returns false'. Refute it at one input. -/
def fnExactParseDocWrong : ChangeSpec := { name := "fnExactParseDoc", fn := fun _ => fun
  | [d] => { results := [.lit (.bool false)], args := [d] }
  | _ => none }
def FnExactParseDocWrongFalsely : Prop := fnExactParseDocRow.holds Try.pinned (OpenSpec.ofChange fnExactParseDocWrong)

/-- 'laws.FnExactChoiceOf': WHATEVER THE INPUT: true; the input reads as it did. -/
def fnExactChoiceOfSpec : ChangeSpec := { name := "fnExactChoiceOf", fn := fun _ => fun
  | [d1, d2] => { results := [.lit (.bool true)], args := [d1, d2] }
  | _ => none }
def fnExactChoiceOfRow : OpenClaim := { program := "ytmccfpniolikhaa", sum := "db802bb7c1918204d705169fc14c195197e79439ef9b9a1222054a3278a8be85", func := "loop.example/docalgebra/laws.FnExactChoiceOf", spec := "fnExactChoiceOf", inPlace := ["internal/bytealg.IndexByteString"], recurses := true, loops := true, apart := false }
def FnExactChoiceOfSaid : Prop := fnExactChoiceOfRow.holds Try.pinned (OpenSpec.ofChange fnExactChoiceOfSpec)

/-- ITS FALSE NEIGHBOUR: 'it returns false'. Refute it at one input. -/
def fnExactChoiceOfWrong : ChangeSpec := { name := "fnExactChoiceOf", fn := fun _ => fun
  | [d1, d2] => { results := [.lit (.bool false)], args := [d1, d2] }
  | _ => none }
def FnExactChoiceOfWrongFalsely : Prop := fnExactChoiceOfRow.holds Try.pinned (OpenSpec.ofChange fnExactChoiceOfWrong)

/-- 'laws.FnExactLayoutsOf': WHATEVER THE INPUT: true; the input reads as it did. -/
def fnExactLayoutsOfSpec : ChangeSpec := { name := "fnExactLayoutsOf", fn := fun _ => fun
  | [d] => { results := [.lit (.bool true)], args := [d] }
  | _ => none }
def fnExactLayoutsOfRow : OpenClaim := { program := "ytmccfpniolikhaa", sum := "db802bb7c1918204d705169fc14c195197e79439ef9b9a1222054a3278a8be85", func := "loop.example/docalgebra/laws.FnExactLayoutsOf", spec := "fnExactLayoutsOf", inPlace := ["internal/bytealg.IndexByteString"], recurses := true, loops := true, apart := false }
def FnExactLayoutsOfSaid : Prop := fnExactLayoutsOfRow.holds Try.pinned (OpenSpec.ofChange fnExactLayoutsOfSpec)

/-- ITS FALSE NEIGHBOUR: 'it returns false'. Refute it at one input. -/
def fnExactLayoutsOfWrong : ChangeSpec := { name := "fnExactLayoutsOf", fn := fun _ => fun
  | [d] => { results := [.lit (.bool false)], args := [d] }
  | _ => none }
def FnExactLayoutsOfWrongFalsely : Prop := fnExactLayoutsOfRow.holds Try.pinned (OpenSpec.ofChange fnExactLayoutsOfWrong)

/-- 'laws.FnExactHasLayout': WHATEVER THE INPUT: true; the input reads as it did. -/
def fnExactHasLayoutSpec : ChangeSpec := { name := "fnExactHasLayout", fn := fun _ => fun
  | [d1, d2] => { results := [.lit (.bool true)], args := [d1, d2] }
  | _ => none }
def fnExactHasLayoutRow : OpenClaim := { program := "ytmccfpniolikhaa", sum := "db802bb7c1918204d705169fc14c195197e79439ef9b9a1222054a3278a8be85", func := "loop.example/docalgebra/laws.FnExactHasLayout", spec := "fnExactHasLayout", inPlace := ["internal/bytealg.IndexByteString"], unfollowed := true, recurses := true, loops := true, apart := false }
def FnExactHasLayoutSaid : Prop := fnExactHasLayoutRow.holds Try.pinned (OpenSpec.ofChange fnExactHasLayoutSpec)

/-- ITS FALSE NEIGHBOUR: 'it returns false'. Refute it at one input. -/
def fnExactHasLayoutWrong : ChangeSpec := { name := "fnExactHasLayout", fn := fun _ => fun
  | [d1, d2] => { results := [.lit (.bool false)], args := [d1, d2] }
  | _ => none }
def FnExactHasLayoutWrongFalsely : Prop := fnExactHasLayoutRow.holds Try.pinned (OpenSpec.ofChange fnExactHasLayoutWrong)

/-- 'laws.FnExactShortest': WHATEVER THE INPUT: true; the input reads as it did. -/
def fnExactShortestSpec : ChangeSpec := { name := "fnExactShortest", fn := fun _ => fun
  | [d] => { results := [.lit (.bool true)], args := [d] }
  | _ => none }
def fnExactShortestRow : OpenClaim := { program := "ytmccfpniolikhaa", sum := "db802bb7c1918204d705169fc14c195197e79439ef9b9a1222054a3278a8be85", func := "loop.example/docalgebra/laws.FnExactShortest", spec := "fnExactShortest", inPlace := ["internal/bytealg.IndexByteString"], unfollowed := true, recurses := true, loops := true, apart := false }
def FnExactShortestSaid : Prop := fnExactShortestRow.holds Try.pinned (OpenSpec.ofChange fnExactShortestSpec)

/-- ITS FALSE NEIGHBOUR: 'it returns false'. Refute it at one input. -/
def fnExactShortestWrong : ChangeSpec := { name := "fnExactShortest", fn := fun _ => fun
  | [d] => { results := [.lit (.bool false)], args := [d] }
  | _ => none }
def FnExactShortestWrongFalsely : Prop := fnExactShortestRow.holds Try.pinned (OpenSpec.ofChange fnExactShortestWrong)

/-- 'laws.FnExactDistinctLayouts': WHATEVER THE INPUT: true; the input reads as it did. -/
def fnExactDistinctLayoutsSpec : ChangeSpec := { name := "fnExactDistinctLayouts", fn := fun _ => fun
  | [d] => { results := [.lit (.bool true)], args := [d] }
  | _ => none }
def fnExactDistinctLayoutsRow : OpenClaim := { program := "ytmccfpniolikhaa", sum := "db802bb7c1918204d705169fc14c195197e79439ef9b9a1222054a3278a8be85", func := "loop.example/docalgebra/laws.FnExactDistinctLayouts", spec := "fnExactDistinctLayouts", inPlace := ["internal/bytealg.IndexByteString"], unfollowed := true, recurses := true, loops := true, apart := false }
def FnExactDistinctLayoutsSaid : Prop := fnExactDistinctLayoutsRow.holds Try.pinned (OpenSpec.ofChange fnExactDistinctLayoutsSpec)

/-- ITS FALSE NEIGHBOUR: 'it returns false'. Refute it at one input. -/
def fnExactDistinctLayoutsWrong : ChangeSpec := { name := "fnExactDistinctLayouts", fn := fun _ => fun
  | [d] => { results := [.lit (.bool false)], args := [d] }
  | _ => none }
def FnExactDistinctLayoutsWrongFalsely : Prop := fnExactDistinctLayoutsRow.holds Try.pinned (OpenSpec.ofChange fnExactDistinctLayoutsWrong)

/-- 'laws.FnExactNarrowest': WHATEVER THE INPUT: true; the input reads as it did. -/
def fnExactNarrowestSpec : ChangeSpec := { name := "fnExactNarrowest", fn := fun _ => fun
  | [d] => { results := [.lit (.bool true)], args := [d] }
  | _ => none }
def fnExactNarrowestRow : OpenClaim := { program := "ytmccfpniolikhaa", sum := "db802bb7c1918204d705169fc14c195197e79439ef9b9a1222054a3278a8be85", func := "loop.example/docalgebra/laws.FnExactNarrowest", spec := "fnExactNarrowest", inPlace := ["internal/bytealg.IndexByteString"], unfollowed := true, recurses := true, loops := true, apart := false }
def FnExactNarrowestSaid : Prop := fnExactNarrowestRow.holds Try.pinned (OpenSpec.ofChange fnExactNarrowestSpec)

/-- ITS FALSE NEIGHBOUR: 'it returns false'. Refute it at one input. -/
def fnExactNarrowestWrong : ChangeSpec := { name := "fnExactNarrowest", fn := fun _ => fun
  | [d] => { results := [.lit (.bool false)], args := [d] }
  | _ => none }
def FnExactNarrowestWrongFalsely : Prop := fnExactNarrowestRow.holds Try.pinned (OpenSpec.ofChange fnExactNarrowestWrong)

/-- 'laws.FnExactLayoutText': WHATEVER THE INPUT: true; the input reads as it did. -/
def fnExactLayoutTextSpec : ChangeSpec := { name := "fnExactLayoutText", fn := fun _ => fun
  | [d] => { results := [.lit (.bool true)], args := [d] }
  | _ => none }
def fnExactLayoutTextRow : OpenClaim := { program := "ytmccfpniolikhaa", sum := "db802bb7c1918204d705169fc14c195197e79439ef9b9a1222054a3278a8be85", func := "loop.example/docalgebra/laws.FnExactLayoutText", spec := "fnExactLayoutText", inPlace := ["internal/bytealg.IndexByteString", "internal/abi.NoEscape", "internal/bytealg.MakeNoZero"], apart := false }
def FnExactLayoutTextSaid : Prop := fnExactLayoutTextRow.holds Try.pinned (OpenSpec.ofChange fnExactLayoutTextSpec)

/-- ITS FALSE NEIGHBOUR: 'it returns false'. Refute it at one input. -/
def fnExactLayoutTextWrong : ChangeSpec := { name := "fnExactLayoutText", fn := fun _ => fun
  | [d] => { results := [.lit (.bool false)], args := [d] }
  | _ => none }
def FnExactLayoutTextWrongFalsely : Prop := fnExactLayoutTextRow.holds Try.pinned (OpenSpec.ofChange fnExactLayoutTextWrong)

/- THE SECOND FORM. 'bulk': how many values and letters a reading holds, each counted each time it is reached (what is shared counts as often as it is met; a slice's spare places count too). A statement '..UptoSaid' is the law's where the arguments, and the package variables that the reading takes, are together of bulk at most 1048576: NARROWER than '..Said'. Prove '..Said' where nothing that the law and all that it calls make is longer than what came in: it says more and counts as full. Else prove '..UptoSaid'. A law counts once. -/
mutual
def uptoBulk {H : Type} : DataW H → Nat
  | .lit (.string bytes) => bytes.length + 1
  | .lit _ => 1
  | .nil => 1
  | .ptr d => uptoBulk d + 1
  | .slice elems spare => uptoBulkAll elems + uptoBulkAll spare + 1
  | .agg parts => uptoBulkAll parts + 1
  | .iface _ d => uptoBulk d + 1
  | .map entries => uptoBulkEntries entries + 1
  | .held _ => 1
def uptoBulkAll {H : Type} : List (DataW H) → Nat
  | [] => 0
  | d :: r => uptoBulk d + uptoBulkAll r
def uptoBulkEntries {H : Type} : List (Lit × DataW H) → Nat
  | [] => 0
  | x :: r => uptoBulkEntry x + uptoBulkEntries r
def uptoBulkEntry {H : Type} : Lit × DataW H → Nat
  | (.string bytes, d) => bytes.length + uptoBulk d + 1
  | (_, d) => uptoBulk d + 1
 end
def uptoSmall : (H : Type) → List (DataW H) → Bool := fun _ ds => decide (uptoBulkAll ds ≤ 1048576)
def OpenSpec.upto (s : _root_.Go.ChangeSpec) : _root_.Go.OpenSpec := { _root_.Go.OpenSpec.ofChange s with cond := some uptoSmall }

/-- 'laws.FnExactFormatDoc', WHERE WHAT IT READS IS OF BULK AT MOST 1048576: true; the input reads as it did. -/
def fnExactFormatDocUptoRow : OpenClaim := { program := "ytmccfpniolikhaa", sum := "db802bb7c1918204d705169fc14c195197e79439ef9b9a1222054a3278a8be85", func := "loop.example/docalgebra/laws.FnExactFormatDoc", spec := "fnExactFormatDoc", inPlace := ["internal/bytealg.IndexByteString"], recurses := true, loops := true, apart := false, narrowed := true }
def FnExactFormatDocUptoSaid : Prop := fnExactFormatDocUptoRow.holds Try.pinned (OpenSpec.upto fnExactFormatDocSpec)

/-- 'laws.FnExactCountChoices', WHERE WHAT IT READS IS OF BULK AT MOST 1048576: true; the input reads as it did. -/
def fnExactCountChoicesUptoRow : OpenClaim := { program := "ytmccfpniolikhaa", sum := "db802bb7c1918204d705169fc14c195197e79439ef9b9a1222054a3278a8be85", func := "loop.example/docalgebra/laws.FnExactCountChoices", spec := "fnExactCountChoices", inPlace := ["internal/bytealg.IndexByteString"], recurses := true, loops := true, apart := false, narrowed := true }
def FnExactCountChoicesUptoSaid : Prop := fnExactCountChoicesUptoRow.holds Try.pinned (OpenSpec.upto fnExactCountChoicesSpec)

/-- 'laws.FnExactCatDocs', WHERE WHAT IT READS IS OF BULK AT MOST 1048576: true; the input reads as it did. -/
def fnExactCatDocsUptoRow : OpenClaim := { program := "ytmccfpniolikhaa", sum := "db802bb7c1918204d705169fc14c195197e79439ef9b9a1222054a3278a8be85", func := "loop.example/docalgebra/laws.FnExactCatDocs", spec := "fnExactCatDocs", inPlace := ["internal/bytealg.IndexByteString"], recurses := true, loops := true, apart := false, narrowed := true }
def FnExactCatDocsUptoSaid : Prop := fnExactCatDocsUptoRow.holds Try.pinned (OpenSpec.upto fnExactCatDocsSpec)

/-- 'laws.FnExactOpenLayout', WHERE WHAT IT READS IS OF BULK AT MOST 1048576: true; the input reads as it did. -/
def fnExactOpenLayoutUptoRow : OpenClaim := { program := "ytmccfpniolikhaa", sum := "db802bb7c1918204d705169fc14c195197e79439ef9b9a1222054a3278a8be85", func := "loop.example/docalgebra/laws.FnExactOpenLayout", spec := "fnExactOpenLayout", inPlace := ["internal/bytealg.IndexByteString"], recurses := true, loops := true, apart := false, narrowed := true }
def FnExactOpenLayoutUptoSaid : Prop := fnExactOpenLayoutUptoRow.holds Try.pinned (OpenSpec.upto fnExactOpenLayoutSpec)

/-- 'laws.FnExactParseDoc', WHERE WHAT IT READS IS OF BULK AT MOST 1048576: true; the input reads as it did. -/
def fnExactParseDocUptoRow : OpenClaim := { program := "ytmccfpniolikhaa", sum := "db802bb7c1918204d705169fc14c195197e79439ef9b9a1222054a3278a8be85", func := "loop.example/docalgebra/laws.FnExactParseDoc", spec := "fnExactParseDoc", inPlace := ["internal/bytealg.IndexByteString", "internal/bytealg.IndexString"], recurses := true, named := ["internal/bytealg.MaxLen"], apart := false, narrowed := true }
def FnExactParseDocUptoSaid : Prop := fnExactParseDocUptoRow.holds Try.pinned (OpenSpec.upto fnExactParseDocSpec)

/-- 'laws.FnExactChoiceOf', WHERE WHAT IT READS IS OF BULK AT MOST 1048576: true; the input reads as it did. -/
def fnExactChoiceOfUptoRow : OpenClaim := { program := "ytmccfpniolikhaa", sum := "db802bb7c1918204d705169fc14c195197e79439ef9b9a1222054a3278a8be85", func := "loop.example/docalgebra/laws.FnExactChoiceOf", spec := "fnExactChoiceOf", inPlace := ["internal/bytealg.IndexByteString"], recurses := true, loops := true, apart := false, narrowed := true }
def FnExactChoiceOfUptoSaid : Prop := fnExactChoiceOfUptoRow.holds Try.pinned (OpenSpec.upto fnExactChoiceOfSpec)

/-- 'laws.FnExactLayoutsOf', WHERE WHAT IT READS IS OF BULK AT MOST 1048576: true; the input reads as it did. -/
def fnExactLayoutsOfUptoRow : OpenClaim := { program := "ytmccfpniolikhaa", sum := "db802bb7c1918204d705169fc14c195197e79439ef9b9a1222054a3278a8be85", func := "loop.example/docalgebra/laws.FnExactLayoutsOf", spec := "fnExactLayoutsOf", inPlace := ["internal/bytealg.IndexByteString"], recurses := true, loops := true, apart := false, narrowed := true }
def FnExactLayoutsOfUptoSaid : Prop := fnExactLayoutsOfUptoRow.holds Try.pinned (OpenSpec.upto fnExactLayoutsOfSpec)

/-- 'laws.FnExactHasLayout', WHERE WHAT IT READS IS OF BULK AT MOST 1048576: true; the input reads as it did. -/
def fnExactHasLayoutUptoRow : OpenClaim := { program := "ytmccfpniolikhaa", sum := "db802bb7c1918204d705169fc14c195197e79439ef9b9a1222054a3278a8be85", func := "loop.example/docalgebra/laws.FnExactHasLayout", spec := "fnExactHasLayout", inPlace := ["internal/bytealg.IndexByteString"], unfollowed := true, recurses := true, loops := true, apart := false, narrowed := true }
def FnExactHasLayoutUptoSaid : Prop := fnExactHasLayoutUptoRow.holds Try.pinned (OpenSpec.upto fnExactHasLayoutSpec)

/-- 'laws.FnExactShortest', WHERE WHAT IT READS IS OF BULK AT MOST 1048576: true; the input reads as it did. -/
def fnExactShortestUptoRow : OpenClaim := { program := "ytmccfpniolikhaa", sum := "db802bb7c1918204d705169fc14c195197e79439ef9b9a1222054a3278a8be85", func := "loop.example/docalgebra/laws.FnExactShortest", spec := "fnExactShortest", inPlace := ["internal/bytealg.IndexByteString"], unfollowed := true, recurses := true, loops := true, apart := false, narrowed := true }
def FnExactShortestUptoSaid : Prop := fnExactShortestUptoRow.holds Try.pinned (OpenSpec.upto fnExactShortestSpec)

/-- 'laws.FnExactDistinctLayouts', WHERE WHAT IT READS IS OF BULK AT MOST 1048576: true; the input reads as it did. -/
def fnExactDistinctLayoutsUptoRow : OpenClaim := { program := "ytmccfpniolikhaa", sum := "db802bb7c1918204d705169fc14c195197e79439ef9b9a1222054a3278a8be85", func := "loop.example/docalgebra/laws.FnExactDistinctLayouts", spec := "fnExactDistinctLayouts", inPlace := ["internal/bytealg.IndexByteString"], unfollowed := true, recurses := true, loops := true, apart := false, narrowed := true }
def FnExactDistinctLayoutsUptoSaid : Prop := fnExactDistinctLayoutsUptoRow.holds Try.pinned (OpenSpec.upto fnExactDistinctLayoutsSpec)

/-- 'laws.FnExactNarrowest', WHERE WHAT IT READS IS OF BULK AT MOST 1048576: true; the input reads as it did. -/
def fnExactNarrowestUptoRow : OpenClaim := { program := "ytmccfpniolikhaa", sum := "db802bb7c1918204d705169fc14c195197e79439ef9b9a1222054a3278a8be85", func := "loop.example/docalgebra/laws.FnExactNarrowest", spec := "fnExactNarrowest", inPlace := ["internal/bytealg.IndexByteString"], unfollowed := true, recurses := true, loops := true, apart := false, narrowed := true }
def FnExactNarrowestUptoSaid : Prop := fnExactNarrowestUptoRow.holds Try.pinned (OpenSpec.upto fnExactNarrowestSpec)

/-- 'laws.FnExactLayoutText', WHERE WHAT IT READS IS OF BULK AT MOST 1048576: true; the input reads as it did. -/
def fnExactLayoutTextUptoRow : OpenClaim := { program := "ytmccfpniolikhaa", sum := "db802bb7c1918204d705169fc14c195197e79439ef9b9a1222054a3278a8be85", func := "loop.example/docalgebra/laws.FnExactLayoutText", spec := "fnExactLayoutText", inPlace := ["internal/bytealg.IndexByteString", "internal/abi.NoEscape", "internal/bytealg.MakeNoZero"], apart := false, narrowed := true }
def FnExactLayoutTextUptoSaid : Prop := fnExactLayoutTextUptoRow.holds Try.pinned (OpenSpec.upto fnExactLayoutTextSpec)

end Rows
end Go.Proofs.Ytmccfpniolikhaa
