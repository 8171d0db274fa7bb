/-
  No cell of these rows narrows 'for every input' (looked for: loops, veiled, ifaces, maps, wideKeys, modest, calm, conditions, laid).
  DERIVED. THE GIVEN ROWS OF THIS SEAT. 12 by the template 'for every input the law returns true; each argument reads behind the call as it read before'; 0 by the template 'total and deterministic' (their statements: YtdhdfmmefghijaaTotals.lean).
  GIVEN WITH THE SEED: the statements are not yours to turn. If you find one false, say at which input.
  Laid BY PROGRAM, IN A SANDBOX (cutbox-rows.mjs): the forced cells as the released guide's own fill.sh prints them over the translation 0454c737d6f580c7… (all of the seat's roots in one cut). By AI agents, Wed Nov 11 2026. No macro, syntax, notation, axiom, sorry.
-/
import Derived.Test.YtdhdfmmefghijaaChecked
import GoSem.Claim
import GoSem.ClaimJoined
import GoSem.ClaimMapViews
import Derived.JoinedTies
import Derived.KernelRfl
namespace Go.Proofs.Ytdhdfmmefghijaa
/- THE CELL 'sum', in the pinned program and in every row, IS THE sha256 OF THE DUMP (.gsa) THAT YtdhdfmmefghijaaProg.lean LOADS. Nothing in Lean hashes anything: it is a label: what it is worth is what the hold of that sum in a sandbox is worth. -/
noncomputable def Try.pinned : Pinned := { name := "ytdhdfmmefghijaa", sum := "0454c737d6f580c78b6378b93b337d417ff0bc960d8eb856744f52b97d01080b", checked := Try.checked }
namespace Rows
def none {H : Type} : Left H := { results := [], args := [] }

/-- 'laws.FnTextValid': WHATEVER THE INPUT: true; the input reads as it did. -/
def fnTextValidSpec : ChangeSpec := { name := "fnTextValid", fn := fun _ => fun
  | [d] => { results := [.lit (.bool true)], args := [d] }
  | _ => none }
def fnTextValidRow : OpenClaim := { program := "ytdhdfmmefghijaa", sum := "0454c737d6f580c78b6378b93b337d417ff0bc960d8eb856744f52b97d01080b", func := "loop.example/docalgebra/laws.FnTextValid", spec := "fnTextValid", inPlace := ["internal/bytealg.IndexByteString", "internal/bytealg.IndexString"], recurses := true, named := ["internal/bytealg.MaxLen"], apart := false }
def FnTextValidSaid : Prop := fnTextValidRow.holds Try.pinned (OpenSpec.ofChange fnTextValidSpec)

/-- ITS FALSE NEIGHBOUR: 'it returns false'. Refute it at one input. -/
def fnTextValidWrong : ChangeSpec := { name := "fnTextValid", fn := fun _ => fun
  | [d] => { results := [.lit (.bool false)], args := [d] }
  | _ => none }
def FnTextValidWrongFalsely : Prop := fnTextValidRow.holds Try.pinned (OpenSpec.ofChange fnTextValidWrong)

/-- 'laws.FnCountParts': WHATEVER THE INPUT: true; the input reads as it did. -/
def fnCountPartsSpec : ChangeSpec := { name := "fnCountParts", fn := fun _ => fun
  | [d] => { results := [.lit (.bool true)], args := [d] }
  | _ => none }
def fnCountPartsRow : OpenClaim := { program := "ytdhdfmmefghijaa", sum := "0454c737d6f580c78b6378b93b337d417ff0bc960d8eb856744f52b97d01080b", func := "loop.example/docalgebra/laws.FnCountParts", spec := "fnCountParts", recurses := true, apart := false }
def FnCountPartsSaid : Prop := fnCountPartsRow.holds Try.pinned (OpenSpec.ofChange fnCountPartsSpec)

/-- ITS FALSE NEIGHBOUR: 'it returns false'. Refute it at one input. -/
def fnCountPartsWrong : ChangeSpec := { name := "fnCountParts", fn := fun _ => fun
  | [d] => { results := [.lit (.bool false)], args := [d] }
  | _ => none }
def FnCountPartsWrongFalsely : Prop := fnCountPartsRow.holds Try.pinned (OpenSpec.ofChange fnCountPartsWrong)

/-- 'laws.FnDocParts': WHATEVER THE INPUT: true; the input reads as it did. -/
def fnDocPartsSpec : ChangeSpec := { name := "fnDocParts", fn := fun _ => fun
  | [d] => { results := [.lit (.bool true)], args := [d] }
  | _ => none }
def fnDocPartsRow : OpenClaim := { program := "ytdhdfmmefghijaa", sum := "0454c737d6f580c78b6378b93b337d417ff0bc960d8eb856744f52b97d01080b", func := "loop.example/docalgebra/laws.FnDocParts", spec := "fnDocParts", inPlace := ["internal/bytealg.IndexByteString"], recurses := true, apart := false }
def FnDocPartsSaid : Prop := fnDocPartsRow.holds Try.pinned (OpenSpec.ofChange fnDocPartsSpec)

/-- ITS FALSE NEIGHBOUR: 'it returns false'. Refute it at one input. -/
def fnDocPartsWrong : ChangeSpec := { name := "fnDocParts", fn := fun _ => fun
  | [d] => { results := [.lit (.bool false)], args := [d] }
  | _ => none }
def FnDocPartsWrongFalsely : Prop := fnDocPartsRow.holds Try.pinned (OpenSpec.ofChange fnDocPartsWrong)

/-- 'laws.FnFlattenParts': WHATEVER THE INPUT: true; the input reads as it did. -/
def fnFlattenPartsSpec : ChangeSpec := { name := "fnFlattenParts", fn := fun _ => fun
  | [d] => { results := [.lit (.bool true)], args := [d] }
  | _ => none }
def fnFlattenPartsRow : OpenClaim := { program := "ytdhdfmmefghijaa", sum := "0454c737d6f580c78b6378b93b337d417ff0bc960d8eb856744f52b97d01080b", func := "loop.example/docalgebra/laws.FnFlattenParts", spec := "fnFlattenParts", inPlace := ["internal/bytealg.IndexByteString"], recurses := true, apart := false }
def FnFlattenPartsSaid : Prop := fnFlattenPartsRow.holds Try.pinned (OpenSpec.ofChange fnFlattenPartsSpec)

/-- ITS FALSE NEIGHBOUR: 'it returns false'. Refute it at one input. -/
def fnFlattenPartsWrong : ChangeSpec := { name := "fnFlattenParts", fn := fun _ => fun
  | [d] => { results := [.lit (.bool false)], args := [d] }
  | _ => none }
def FnFlattenPartsWrongFalsely : Prop := fnFlattenPartsRow.holds Try.pinned (OpenSpec.ofChange fnFlattenPartsWrong)

/-- 'laws.FnCountOps': WHATEVER THE INPUT: true; the input reads as it did. -/
def fnCountOpsSpec : ChangeSpec := { name := "fnCountOps", fn := fun _ => fun
  | [d] => { results := [.lit (.bool true)], args := [d] }
  | _ => none }
def fnCountOpsRow : OpenClaim := { program := "ytdhdfmmefghijaa", sum := "0454c737d6f580c78b6378b93b337d417ff0bc960d8eb856744f52b97d01080b", func := "loop.example/docalgebra/laws.FnCountOps", spec := "fnCountOps", inPlace := ["internal/bytealg.IndexByteString"], recurses := true, apart := false }
def FnCountOpsSaid : Prop := fnCountOpsRow.holds Try.pinned (OpenSpec.ofChange fnCountOpsSpec)

/-- ITS FALSE NEIGHBOUR: 'it returns false'. Refute it at one input. -/
def fnCountOpsWrong : ChangeSpec := { name := "fnCountOps", fn := fun _ => fun
  | [d] => { results := [.lit (.bool false)], args := [d] }
  | _ => none }
def FnCountOpsWrongFalsely : Prop := fnCountOpsRow.holds Try.pinned (OpenSpec.ofChange fnCountOpsWrong)

/-- 'laws.FnCatSame': WHATEVER THE INPUT: true; the input reads as it did. -/
def fnCatSameSpec : ChangeSpec := { name := "fnCatSame", fn := fun _ => fun
  | [d1, d2] => { results := [.lit (.bool true)], args := [d1, d2] }
  | _ => none }
def fnCatSameRow : OpenClaim := { program := "ytdhdfmmefghijaa", sum := "0454c737d6f580c78b6378b93b337d417ff0bc960d8eb856744f52b97d01080b", func := "loop.example/docalgebra/laws.FnCatSame", spec := "fnCatSame", inPlace := ["internal/bytealg.IndexByteString"], recurses := true, apart := false }
def FnCatSameSaid : Prop := fnCatSameRow.holds Try.pinned (OpenSpec.ofChange fnCatSameSpec)

/-- ITS FALSE NEIGHBOUR: 'it returns false'. Refute it at one input. -/
def fnCatSameWrong : ChangeSpec := { name := "fnCatSame", fn := fun _ => fun
  | [d1, d2] => { results := [.lit (.bool false)], args := [d1, d2] }
  | _ => none }
def FnCatSameWrongFalsely : Prop := fnCatSameRow.holds Try.pinned (OpenSpec.ofChange fnCatSameWrong)

/-- 'laws.FnDocSame': WHATEVER THE INPUT: true; the input reads as it did. -/
def fnDocSameSpec : ChangeSpec := { name := "fnDocSame", fn := fun _ => fun
  | [d] => { results := [.lit (.bool true)], args := [d] }
  | _ => none }
def fnDocSameRow : OpenClaim := { program := "ytdhdfmmefghijaa", sum := "0454c737d6f580c78b6378b93b337d417ff0bc960d8eb856744f52b97d01080b", func := "loop.example/docalgebra/laws.FnDocSame", spec := "fnDocSame", inPlace := ["internal/bytealg.IndexByteString"], recurses := true, apart := false }
def FnDocSameSaid : Prop := fnDocSameRow.holds Try.pinned (OpenSpec.ofChange fnDocSameSpec)

/-- ITS FALSE NEIGHBOUR: 'it returns false'. Refute it at one input. -/
def fnDocSameWrong : ChangeSpec := { name := "fnDocSame", fn := fun _ => fun
  | [d] => { results := [.lit (.bool false)], args := [d] }
  | _ => none }
def FnDocSameWrongFalsely : Prop := fnDocSameRow.holds Try.pinned (OpenSpec.ofChange fnDocSameWrong)

/-- 'laws.FnCatDocs': WHATEVER THE INPUT: true; the input reads as it did. -/
def fnCatDocsSpec : ChangeSpec := { name := "fnCatDocs", fn := fun _ => fun
  | [d] => { results := [.lit (.bool true)], args := [d] }
  | _ => none }
def fnCatDocsRow : OpenClaim := { program := "ytdhdfmmefghijaa", sum := "0454c737d6f580c78b6378b93b337d417ff0bc960d8eb856744f52b97d01080b", func := "loop.example/docalgebra/laws.FnCatDocs", spec := "fnCatDocs", inPlace := ["internal/bytealg.IndexByteString"], recurses := true, apart := false }
def FnCatDocsSaid : Prop := fnCatDocsRow.holds Try.pinned (OpenSpec.ofChange fnCatDocsSpec)

/-- ITS FALSE NEIGHBOUR: 'it returns false'. Refute it at one input. -/
def fnCatDocsWrong : ChangeSpec := { name := "fnCatDocs", fn := fun _ => fun
  | [d] => { results := [.lit (.bool false)], args := [d] }
  | _ => none }
def FnCatDocsWrongFalsely : Prop := fnCatDocsRow.holds Try.pinned (OpenSpec.ofChange fnCatDocsWrong)

/-- 'laws.FnFlatText': WHATEVER THE INPUT: true; the input reads as it did. -/
def fnFlatTextSpec : ChangeSpec := { name := "fnFlatText", fn := fun _ => fun
  | [d] => { results := [.lit (.bool true)], args := [d] }
  | _ => none }
def fnFlatTextRow : OpenClaim := { program := "ytdhdfmmefghijaa", sum := "0454c737d6f580c78b6378b93b337d417ff0bc960d8eb856744f52b97d01080b", func := "loop.example/docalgebra/laws.FnFlatText", spec := "fnFlatText", inPlace := ["internal/bytealg.IndexByteString"], recurses := true, apart := false }
def FnFlatTextSaid : Prop := fnFlatTextRow.holds Try.pinned (OpenSpec.ofChange fnFlatTextSpec)

/-- ITS FALSE NEIGHBOUR: 'it returns false'. Refute it at one input. -/
def fnFlatTextWrong : ChangeSpec := { name := "fnFlatText", fn := fun _ => fun
  | [d] => { results := [.lit (.bool false)], args := [d] }
  | _ => none }
def FnFlatTextWrongFalsely : Prop := fnFlatTextRow.holds Try.pinned (OpenSpec.ofChange fnFlatTextWrong)

/-- 'laws.FnDocBytes': WHATEVER THE INPUT: true; the input reads as it did. -/
def fnDocBytesSpec : ChangeSpec := { name := "fnDocBytes", fn := fun _ => fun
  | [d] => { results := [.lit (.bool true)], args := [d] }
  | _ => none }
def fnDocBytesRow : OpenClaim := { program := "ytdhdfmmefghijaa", sum := "0454c737d6f580c78b6378b93b337d417ff0bc960d8eb856744f52b97d01080b", func := "loop.example/docalgebra/laws.FnDocBytes", spec := "fnDocBytes", inPlace := ["internal/bytealg.IndexByteString"], recurses := true, apart := false }
def FnDocBytesSaid : Prop := fnDocBytesRow.holds Try.pinned (OpenSpec.ofChange fnDocBytesSpec)

/-- ITS FALSE NEIGHBOUR: 'it returns false'. Refute it at one input. -/
def fnDocBytesWrong : ChangeSpec := { name := "fnDocBytes", fn := fun _ => fun
  | [d] => { results := [.lit (.bool false)], args := [d] }
  | _ => none }
def FnDocBytesWrongFalsely : Prop := fnDocBytesRow.holds Try.pinned (OpenSpec.ofChange fnDocBytesWrong)

/-- 'laws.FnParseSize': WHATEVER THE INPUT: true; the input reads as it did. -/
def fnParseSizeSpec : ChangeSpec := { name := "fnParseSize", fn := fun _ => fun
  | [d] => { results := [.lit (.bool true)], args := [d] }
  | _ => none }
def fnParseSizeRow : OpenClaim := { program := "ytdhdfmmefghijaa", sum := "0454c737d6f580c78b6378b93b337d417ff0bc960d8eb856744f52b97d01080b", func := "loop.example/docalgebra/laws.FnParseSize", spec := "fnParseSize", inPlace := ["internal/bytealg.IndexByteString", "internal/bytealg.IndexString"], recurses := true, named := ["internal/bytealg.MaxLen"], apart := false }
def FnParseSizeSaid : Prop := fnParseSizeRow.holds Try.pinned (OpenSpec.ofChange fnParseSizeSpec)

/-- ITS FALSE NEIGHBOUR: 'it returns false'. Refute it at one input. -/
def fnParseSizeWrong : ChangeSpec := { name := "fnParseSize", fn := fun _ => fun
  | [d] => { results := [.lit (.bool false)], args := [d] }
  | _ => none }
def FnParseSizeWrongFalsely : Prop := fnParseSizeRow.holds Try.pinned (OpenSpec.ofChange fnParseSizeWrong)

/-- 'laws.FnDocText': WHATEVER THE INPUT: true; the input reads as it did. -/
def fnDocTextSpec : ChangeSpec := { name := "fnDocText", fn := fun _ => fun
  | [d1, d2] => { results := [.lit (.bool true)], args := [d1, d2] }
  | _ => none }
def fnDocTextRow : OpenClaim := { program := "ytdhdfmmefghijaa", sum := "0454c737d6f580c78b6378b93b337d417ff0bc960d8eb856744f52b97d01080b", func := "loop.example/docalgebra/laws.FnDocText", spec := "fnDocText", inPlace := ["internal/bytealg.IndexByteString", "internal/bytealg.IndexString"], recurses := true, named := ["internal/bytealg.MaxLen"], apart := false }
def FnDocTextSaid : Prop := fnDocTextRow.holds Try.pinned (OpenSpec.ofChange fnDocTextSpec)

/-- ITS FALSE NEIGHBOUR: 'it returns false'. Refute it at one input. -/
def fnDocTextWrong : ChangeSpec := { name := "fnDocText", fn := fun _ => fun
  | [d1, d2] => { results := [.lit (.bool false)], args := [d1, d2] }
  | _ => none }
def FnDocTextWrongFalsely : Prop := fnDocTextRow.holds Try.pinned (OpenSpec.ofChange fnDocTextWrong)

/- THE SECOND FORM. 'bulk': how many values and letters a reading holds, each counted each time it is reached (what is shared counts as often as it is met; a slice's spare places count too). A statement '..UptoSaid' is the law's where the arguments, and the package variables that the reading takes, are together of bulk at most 1048576: NARROWER than '..Said'. Prove '..Said' where nothing that the law and all that it calls make is longer than what came in: it says more and counts as full. Else prove '..UptoSaid'. A law counts once. -/
mutual
def uptoBulk {H : Type} : DataW H → Nat
  | .lit (.string bytes) => bytes.length + 1
  | .lit _ => 1
  | .nil => 1
  | .ptr d => uptoBulk d + 1
  | .slice elems spare => uptoBulkAll elems + uptoBulkAll spare + 1
  | .agg parts => uptoBulkAll parts + 1
  | .iface _ d => uptoBulk d + 1
  | .map entries => uptoBulkEntries entries + 1
  | .held _ => 1
def uptoBulkAll {H : Type} : List (DataW H) → Nat
  | [] => 0
  | d :: r => uptoBulk d + uptoBulkAll r
def uptoBulkEntries {H : Type} : List (Lit × DataW H) → Nat
  | [] => 0
  | x :: r => uptoBulkEntry x + uptoBulkEntries r
def uptoBulkEntry {H : Type} : Lit × DataW H → Nat
  | (.string bytes, d) => bytes.length + uptoBulk d + 1
  | (_, d) => uptoBulk d + 1
 end
def uptoSmall : (H : Type) → List (DataW H) → Bool := fun _ ds => decide (uptoBulkAll ds ≤ 1048576)
def OpenSpec.upto (s : _root_.Go.ChangeSpec) : _root_.Go.OpenSpec := { _root_.Go.OpenSpec.ofChange s with cond := some uptoSmall }

/-- 'laws.FnTextValid', WHERE WHAT IT READS IS OF BULK AT MOST 1048576: true; the input reads as it did. -/
def fnTextValidUptoRow : OpenClaim := { program := "ytdhdfmmefghijaa", sum := "0454c737d6f580c78b6378b93b337d417ff0bc960d8eb856744f52b97d01080b", func := "loop.example/docalgebra/laws.FnTextValid", spec := "fnTextValid", inPlace := ["internal/bytealg.IndexByteString", "internal/bytealg.IndexString"], recurses := true, named := ["internal/bytealg.MaxLen"], apart := false, narrowed := true }
def FnTextValidUptoSaid : Prop := fnTextValidUptoRow.holds Try.pinned (OpenSpec.upto fnTextValidSpec)

/-- 'laws.FnCountParts', WHERE WHAT IT READS IS OF BULK AT MOST 1048576: true; the input reads as it did. -/
def fnCountPartsUptoRow : OpenClaim := { program := "ytdhdfmmefghijaa", sum := "0454c737d6f580c78b6378b93b337d417ff0bc960d8eb856744f52b97d01080b", func := "loop.example/docalgebra/laws.FnCountParts", spec := "fnCountParts", recurses := true, apart := false, narrowed := true }
def FnCountPartsUptoSaid : Prop := fnCountPartsUptoRow.holds Try.pinned (OpenSpec.upto fnCountPartsSpec)

/-- 'laws.FnDocParts', WHERE WHAT IT READS IS OF BULK AT MOST 1048576: true; the input reads as it did. -/
def fnDocPartsUptoRow : OpenClaim := { program := "ytdhdfmmefghijaa", sum := "0454c737d6f580c78b6378b93b337d417ff0bc960d8eb856744f52b97d01080b", func := "loop.example/docalgebra/laws.FnDocParts", spec := "fnDocParts", inPlace := ["internal/bytealg.IndexByteString"], recurses := true, apart := false, narrowed := true }
def FnDocPartsUptoSaid : Prop := fnDocPartsUptoRow.holds Try.pinned (OpenSpec.upto fnDocPartsSpec)

/-- 'laws.FnFlattenParts', WHERE WHAT IT READS IS OF BULK AT MOST 1048576: true; the input reads as it did. -/
def fnFlattenPartsUptoRow : OpenClaim := { program := "ytdhdfmmefghijaa", sum := "0454c737d6f580c78b6378b93b337d417ff0bc960d8eb856744f52b97d01080b", func := "loop.example/docalgebra/laws.FnFlattenParts", spec := "fnFlattenParts", inPlace := ["internal/bytealg.IndexByteString"], recurses := true, apart := false, narrowed := true }
def FnFlattenPartsUptoSaid : Prop := fnFlattenPartsUptoRow.holds Try.pinned (OpenSpec.upto fnFlattenPartsSpec)

/-- 'laws.FnCountOps', WHERE WHAT IT READS IS OF BULK AT MOST 1048576: true; the input reads as it did. -/
def fnCountOpsUptoRow : OpenClaim := { program := "ytdhdfmmefghijaa", sum := "0454c737d6f580c78b6378b93b337d417ff0bc960d8eb856744f52b97d01080b", func := "loop.example/docalgebra/laws.FnCountOps", spec := "fnCountOps", inPlace := ["internal/bytealg.IndexByteString"], recurses := true, apart := false, narrowed := true }
def FnCountOpsUptoSaid : Prop := fnCountOpsUptoRow.holds Try.pinned (OpenSpec.upto fnCountOpsSpec)

/-- 'laws.FnCatSame', WHERE WHAT IT READS IS OF BULK AT MOST 1048576: true; the input reads as it did. -/
def fnCatSameUptoRow : OpenClaim := { program := "ytdhdfmmefghijaa", sum := "0454c737d6f580c78b6378b93b337d417ff0bc960d8eb856744f52b97d01080b", func := "loop.example/docalgebra/laws.FnCatSame", spec := "fnCatSame", inPlace := ["internal/bytealg.IndexByteString"], recurses := true, apart := false, narrowed := true }
def FnCatSameUptoSaid : Prop := fnCatSameUptoRow.holds Try.pinned (OpenSpec.upto fnCatSameSpec)

/-- 'laws.FnDocSame', WHERE WHAT IT READS IS OF BULK AT MOST 1048576: true; the input reads as it did. -/
def fnDocSameUptoRow : OpenClaim := { program := "ytdhdfmmefghijaa", sum := "0454c737d6f580c78b6378b93b337d417ff0bc960d8eb856744f52b97d01080b", func := "loop.example/docalgebra/laws.FnDocSame", spec := "fnDocSame", inPlace := ["internal/bytealg.IndexByteString"], recurses := true, apart := false, narrowed := true }
def FnDocSameUptoSaid : Prop := fnDocSameUptoRow.holds Try.pinned (OpenSpec.upto fnDocSameSpec)

/-- 'laws.FnCatDocs', WHERE WHAT IT READS IS OF BULK AT MOST 1048576: true; the input reads as it did. -/
def fnCatDocsUptoRow : OpenClaim := { program := "ytdhdfmmefghijaa", sum := "0454c737d6f580c78b6378b93b337d417ff0bc960d8eb856744f52b97d01080b", func := "loop.example/docalgebra/laws.FnCatDocs", spec := "fnCatDocs", inPlace := ["internal/bytealg.IndexByteString"], recurses := true, apart := false, narrowed := true }
def FnCatDocsUptoSaid : Prop := fnCatDocsUptoRow.holds Try.pinned (OpenSpec.upto fnCatDocsSpec)

/-- 'laws.FnFlatText', WHERE WHAT IT READS IS OF BULK AT MOST 1048576: true; the input reads as it did. -/
def fnFlatTextUptoRow : OpenClaim := { program := "ytdhdfmmefghijaa", sum := "0454c737d6f580c78b6378b93b337d417ff0bc960d8eb856744f52b97d01080b", func := "loop.example/docalgebra/laws.FnFlatText", spec := "fnFlatText", inPlace := ["internal/bytealg.IndexByteString"], recurses := true, apart := false, narrowed := true }
def FnFlatTextUptoSaid : Prop := fnFlatTextUptoRow.holds Try.pinned (OpenSpec.upto fnFlatTextSpec)

/-- 'laws.FnDocBytes', WHERE WHAT IT READS IS OF BULK AT MOST 1048576: true; the input reads as it did. -/
def fnDocBytesUptoRow : OpenClaim := { program := "ytdhdfmmefghijaa", sum := "0454c737d6f580c78b6378b93b337d417ff0bc960d8eb856744f52b97d01080b", func := "loop.example/docalgebra/laws.FnDocBytes", spec := "fnDocBytes", inPlace := ["internal/bytealg.IndexByteString"], recurses := true, apart := false, narrowed := true }
def FnDocBytesUptoSaid : Prop := fnDocBytesUptoRow.holds Try.pinned (OpenSpec.upto fnDocBytesSpec)

/-- 'laws.FnParseSize', WHERE WHAT IT READS IS OF BULK AT MOST 1048576: true; the input reads as it did. -/
def fnParseSizeUptoRow : OpenClaim := { program := "ytdhdfmmefghijaa", sum := "0454c737d6f580c78b6378b93b337d417ff0bc960d8eb856744f52b97d01080b", func := "loop.example/docalgebra/laws.FnParseSize", spec := "fnParseSize", inPlace := ["internal/bytealg.IndexByteString", "internal/bytealg.IndexString"], recurses := true, named := ["internal/bytealg.MaxLen"], apart := false, narrowed := true }
def FnParseSizeUptoSaid : Prop := fnParseSizeUptoRow.holds Try.pinned (OpenSpec.upto fnParseSizeSpec)

/-- 'laws.FnDocText', WHERE WHAT IT READS IS OF BULK AT MOST 1048576: true; the input reads as it did. -/
def fnDocTextUptoRow : OpenClaim := { program := "ytdhdfmmefghijaa", sum := "0454c737d6f580c78b6378b93b337d417ff0bc960d8eb856744f52b97d01080b", func := "loop.example/docalgebra/laws.FnDocText", spec := "fnDocText", inPlace := ["internal/bytealg.IndexByteString", "internal/bytealg.IndexString"], recurses := true, named := ["internal/bytealg.MaxLen"], apart := false, narrowed := true }
def FnDocTextUptoSaid : Prop := fnDocTextUptoRow.holds Try.pinned (OpenSpec.upto fnDocTextSpec)

end Rows
end Go.Proofs.Ytdhdfmmefghijaa
