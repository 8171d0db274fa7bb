/-
  NARROWER THAN 'FOR EVERY INPUT', by the rows' own cells (each row's printed sentence says how): FnExactDocSize: loops · FnExactCountOps: loops · FnExactDocSame: loops.
  DERIVED. THE GIVEN ROWS OF THIS SEAT. 7 by the template 'for every input the law returns true; each argument reads behind the call as it read before'; 0 by the template 'total and deterministic' (their statements: YtmhjkpepbjphcaaTotals.lean).
  GIVEN WITH THE SEED: the statements are not yours to turn. If you find one false, say at which input.
  Laid BY PROGRAM, IN A SANDBOX (cutbox-rows.mjs): the forced cells as the released guide's own fill.sh prints them over the translation 2bd3d958647d73df… (all of the seat's roots in one cut). By AI agents, Wed Nov 11 2026. No macro, syntax, notation, axiom, sorry.
-/
import Derived.Test.YtmhjkpepbjphcaaChecked
import GoSem.Claim
import GoSem.ClaimJoined
import GoSem.ClaimMapViews
import Derived.JoinedTies
import Derived.KernelRfl
namespace Go.Proofs.Ytmhjkpepbjphcaa
/- THE CELL 'sum', in the pinned program and in every row, IS THE sha256 OF THE DUMP (.gsa) THAT YtmhjkpepbjphcaaProg.lean LOADS. Nothing in Lean hashes anything: it is a label: what it is worth is what the hold of that sum in a sandbox is worth. -/
noncomputable def Try.pinned : Pinned := { name := "ytmhjkpepbjphcaa", sum := "2bd3d958647d73df0fd592fe5b6aeb18ebd9c59d51f9833a7235ade76b6e1ddf", checked := Try.checked }
namespace Rows
def none {H : Type} : Left H := { results := [], args := [] }

/-- 'laws.FnExactConstants': WHATEVER THE INPUT: true; the input reads as it did. -/
def fnExactConstantsSpec : ChangeSpec := { name := "fnExactConstants", fn := fun _ => fun
  | [] => { results := [.lit (.bool true)], args := [] }
  | _ => none }
def fnExactConstantsRow : OpenClaim := { program := "ytmhjkpepbjphcaa", sum := "2bd3d958647d73df0fd592fe5b6aeb18ebd9c59d51f9833a7235ade76b6e1ddf", func := "loop.example/docalgebra/laws.FnExactConstants", spec := "fnExactConstants", apart := false }
def FnExactConstantsSaid : Prop := fnExactConstantsRow.holds Try.pinned (OpenSpec.ofChange fnExactConstantsSpec)

/-- ITS FALSE NEIGHBOUR: 'it returns false'. Refute it at one input. -/
def fnExactConstantsWrong : ChangeSpec := { name := "fnExactConstants", fn := fun _ => fun
  | [] => { results := [.lit (.bool false)], args := [] }
  | _ => none }
def FnExactConstantsWrongFalsely : Prop := fnExactConstantsRow.holds Try.pinned (OpenSpec.ofChange fnExactConstantsWrong)

/-- 'laws.FnExactTextValid': WHATEVER THE INPUT: true; the input reads as it did. -/
def fnExactTextValidSpec : ChangeSpec := { name := "fnExactTextValid", fn := fun _ => fun
  | [d] => { results := [.lit (.bool true)], args := [d] }
  | _ => none }
def fnExactTextValidRow : OpenClaim := { program := "ytmhjkpepbjphcaa", sum := "2bd3d958647d73df0fd592fe5b6aeb18ebd9c59d51f9833a7235ade76b6e1ddf", func := "loop.example/docalgebra/laws.FnExactTextValid", spec := "fnExactTextValid", inPlace := ["internal/bytealg.IndexByteString"], apart := false }
def FnExactTextValidSaid : Prop := fnExactTextValidRow.holds Try.pinned (OpenSpec.ofChange fnExactTextValidSpec)

/-- ITS FALSE NEIGHBOUR: 'it returns false'. Refute it at one input. -/
def fnExactTextValidWrong : ChangeSpec := { name := "fnExactTextValid", fn := fun _ => fun
  | [d] => { results := [.lit (.bool false)], args := [d] }
  | _ => none }
def FnExactTextValidWrongFalsely : Prop := fnExactTextValidRow.holds Try.pinned (OpenSpec.ofChange fnExactTextValidWrong)

/-- 'laws.FnExactLayoutSame': WHATEVER THE INPUT: true; the input reads as it did. -/
def fnExactLayoutSameSpec : ChangeSpec := { name := "fnExactLayoutSame", fn := fun _ => fun
  | [d1, d2] => { results := [.lit (.bool true)], args := [d1, d2] }
  | _ => none }
def fnExactLayoutSameRow : OpenClaim := { program := "ytmhjkpepbjphcaa", sum := "2bd3d958647d73df0fd592fe5b6aeb18ebd9c59d51f9833a7235ade76b6e1ddf", func := "loop.example/docalgebra/laws.FnExactLayoutSame", spec := "fnExactLayoutSame", apart := false }
def FnExactLayoutSameSaid : Prop := fnExactLayoutSameRow.holds Try.pinned (OpenSpec.ofChange fnExactLayoutSameSpec)

/-- ITS FALSE NEIGHBOUR: 'it returns false'. Refute it at one input. -/
def fnExactLayoutSameWrong : ChangeSpec := { name := "fnExactLayoutSame", fn := fun _ => fun
  | [d1, d2] => { results := [.lit (.bool false)], args := [d1, d2] }
  | _ => none }
def FnExactLayoutSameWrongFalsely : Prop := fnExactLayoutSameRow.holds Try.pinned (OpenSpec.ofChange fnExactLayoutSameWrong)

/-- 'laws.FnExactDocSize': WHATEVER THE INPUT: true; the input reads as it did. -/
def fnExactDocSizeSpec : ChangeSpec := { name := "fnExactDocSize", fn := fun _ => fun
  | [d] => { results := [.lit (.bool true)], args := [d] }
  | _ => none }
def fnExactDocSizeRow : OpenClaim := { program := "ytmhjkpepbjphcaa", sum := "2bd3d958647d73df0fd592fe5b6aeb18ebd9c59d51f9833a7235ade76b6e1ddf", func := "loop.example/docalgebra/laws.FnExactDocSize", spec := "fnExactDocSize", recurses := true, loops := true, apart := false }
def FnExactDocSizeSaid : Prop := fnExactDocSizeRow.holds Try.pinned (OpenSpec.ofChange fnExactDocSizeSpec)

/-- ITS FALSE NEIGHBOUR: 'it returns false'. Refute it at one input. -/
def fnExactDocSizeWrong : ChangeSpec := { name := "fnExactDocSize", fn := fun _ => fun
  | [d] => { results := [.lit (.bool false)], args := [d] }
  | _ => none }
def FnExactDocSizeWrongFalsely : Prop := fnExactDocSizeRow.holds Try.pinned (OpenSpec.ofChange fnExactDocSizeWrong)

/-- 'laws.FnExactCountOps': WHATEVER THE INPUT: true; the input reads as it did. -/
def fnExactCountOpsSpec : ChangeSpec := { name := "fnExactCountOps", fn := fun _ => fun
  | [d1, d2] => { results := [.lit (.bool true)], args := [d1, d2] }
  | _ => none }
def fnExactCountOpsRow : OpenClaim := { program := "ytmhjkpepbjphcaa", sum := "2bd3d958647d73df0fd592fe5b6aeb18ebd9c59d51f9833a7235ade76b6e1ddf", func := "loop.example/docalgebra/laws.FnExactCountOps", spec := "fnExactCountOps", recurses := true, loops := true, apart := false }
def FnExactCountOpsSaid : Prop := fnExactCountOpsRow.holds Try.pinned (OpenSpec.ofChange fnExactCountOpsSpec)

/-- ITS FALSE NEIGHBOUR: 'it returns false'. Refute it at one input. -/
def fnExactCountOpsWrong : ChangeSpec := { name := "fnExactCountOps", fn := fun _ => fun
  | [d1, d2] => { results := [.lit (.bool false)], args := [d1, d2] }
  | _ => none }
def FnExactCountOpsWrongFalsely : Prop := fnExactCountOpsRow.holds Try.pinned (OpenSpec.ofChange fnExactCountOpsWrong)

/-- 'laws.FnExactDocSame': WHATEVER THE INPUT: true; the input reads as it did. -/
def fnExactDocSameSpec : ChangeSpec := { name := "fnExactDocSame", fn := fun _ => fun
  | [d1, d2] => { results := [.lit (.bool true)], args := [d1, d2] }
  | _ => none }
def fnExactDocSameRow : OpenClaim := { program := "ytmhjkpepbjphcaa", sum := "2bd3d958647d73df0fd592fe5b6aeb18ebd9c59d51f9833a7235ade76b6e1ddf", func := "loop.example/docalgebra/laws.FnExactDocSame", spec := "fnExactDocSame", recurses := true, loops := true, apart := false }
def FnExactDocSameSaid : Prop := fnExactDocSameRow.holds Try.pinned (OpenSpec.ofChange fnExactDocSameSpec)

/-- ITS FALSE NEIGHBOUR: 'it returns false'. Refute it at one input. -/
def fnExactDocSameWrong : ChangeSpec := { name := "fnExactDocSame", fn := fun _ => fun
  | [d1, d2] => { results := [.lit (.bool false)], args := [d1, d2] }
  | _ => none }
def FnExactDocSameWrongFalsely : Prop := fnExactDocSameRow.holds Try.pinned (OpenSpec.ofChange fnExactDocSameWrong)

/-- 'laws.FnExactLayoutValid': WHATEVER THE INPUT: true; the input reads as it did. -/
def fnExactLayoutValidSpec : ChangeSpec := { name := "fnExactLayoutValid", fn := fun _ => fun
  | [d] => { results := [.lit (.bool true)], args := [d] }
  | _ => none }
def fnExactLayoutValidRow : OpenClaim := { program := "ytmhjkpepbjphcaa", sum := "2bd3d958647d73df0fd592fe5b6aeb18ebd9c59d51f9833a7235ade76b6e1ddf", func := "loop.example/docalgebra/laws.FnExactLayoutValid", spec := "fnExactLayoutValid", inPlace := ["internal/bytealg.IndexByteString"], apart := false }
def FnExactLayoutValidSaid : Prop := fnExactLayoutValidRow.holds Try.pinned (OpenSpec.ofChange fnExactLayoutValidSpec)

/-- ITS FALSE NEIGHBOUR: 'it returns false'. Refute it at one input. -/
def fnExactLayoutValidWrong : ChangeSpec := { name := "fnExactLayoutValid", fn := fun _ => fun
  | [d] => { results := [.lit (.bool false)], args := [d] }
  | _ => none }
def FnExactLayoutValidWrongFalsely : Prop := fnExactLayoutValidRow.holds Try.pinned (OpenSpec.ofChange fnExactLayoutValidWrong)

/- THE SECOND FORM. 'bulk': how many values and letters a reading holds, each counted each time it is reached (what is shared counts as often as it is met; a slice's spare places count too). A statement '..UptoSaid' is the law's where the arguments, and the package variables that the reading takes, are together of bulk at most 1048576: NARROWER than '..Said'. Prove '..Said' where nothing that the law and all that it calls make is longer than what came in: it says more and counts as full. Else prove '..UptoSaid'. A law counts once. -/
mutual
def uptoBulk {H : Type} : DataW H → Nat
  | .lit (.string bytes) => bytes.length + 1
  | .lit _ => 1
  | .nil => 1
  | .ptr d => uptoBulk d + 1
  | .slice elems spare => uptoBulkAll elems + uptoBulkAll spare + 1
  | .agg parts => uptoBulkAll parts + 1
  | .iface _ d => uptoBulk d + 1
  | .map entries => uptoBulkEntries entries + 1
  | .held _ => 1
def uptoBulkAll {H : Type} : List (DataW H) → Nat
  | [] => 0
  | d :: r => uptoBulk d + uptoBulkAll r
def uptoBulkEntries {H : Type} : List (Lit × DataW H) → Nat
  | [] => 0
  | x :: r => uptoBulkEntry x + uptoBulkEntries r
def uptoBulkEntry {H : Type} : Lit × DataW H → Nat
  | (.string bytes, d) => bytes.length + uptoBulk d + 1
  | (_, d) => uptoBulk d + 1
 end
def uptoSmall : (H : Type) → List (DataW H) → Bool := fun _ ds => decide (uptoBulkAll ds ≤ 1048576)
def OpenSpec.upto (s : _root_.Go.ChangeSpec) : _root_.Go.OpenSpec := { _root_.Go.OpenSpec.ofChange s with cond := some uptoSmall }

/-- 'laws.FnExactConstants', WHERE WHAT IT READS IS OF BULK AT MOST 1048576: true; the input reads as it did. -/
def fnExactConstantsUptoRow : OpenClaim := { program := "ytmhjkpepbjphcaa", sum := "2bd3d958647d73df0fd592fe5b6aeb18ebd9c59d51f9833a7235ade76b6e1ddf", func := "loop.example/docalgebra/laws.FnExactConstants", spec := "fnExactConstants", apart := false, narrowed := true }
def FnExactConstantsUptoSaid : Prop := fnExactConstantsUptoRow.holds Try.pinned (OpenSpec.upto fnExactConstantsSpec)

/-- 'laws.FnExactTextValid', WHERE WHAT IT READS IS OF BULK AT MOST 1048576: true; the input reads as it did. -/
def fnExactTextValidUptoRow : OpenClaim := { program := "ytmhjkpepbjphcaa", sum := "2bd3d958647d73df0fd592fe5b6aeb18ebd9c59d51f9833a7235ade76b6e1ddf", func := "loop.example/docalgebra/laws.FnExactTextValid", spec := "fnExactTextValid", inPlace := ["internal/bytealg.IndexByteString"], apart := false, narrowed := true }
def FnExactTextValidUptoSaid : Prop := fnExactTextValidUptoRow.holds Try.pinned (OpenSpec.upto fnExactTextValidSpec)

/-- 'laws.FnExactLayoutSame', WHERE WHAT IT READS IS OF BULK AT MOST 1048576: true; the input reads as it did. -/
def fnExactLayoutSameUptoRow : OpenClaim := { program := "ytmhjkpepbjphcaa", sum := "2bd3d958647d73df0fd592fe5b6aeb18ebd9c59d51f9833a7235ade76b6e1ddf", func := "loop.example/docalgebra/laws.FnExactLayoutSame", spec := "fnExactLayoutSame", apart := false, narrowed := true }
def FnExactLayoutSameUptoSaid : Prop := fnExactLayoutSameUptoRow.holds Try.pinned (OpenSpec.upto fnExactLayoutSameSpec)

/-- 'laws.FnExactDocSize', WHERE WHAT IT READS IS OF BULK AT MOST 1048576: true; the input reads as it did. -/
def fnExactDocSizeUptoRow : OpenClaim := { program := "ytmhjkpepbjphcaa", sum := "2bd3d958647d73df0fd592fe5b6aeb18ebd9c59d51f9833a7235ade76b6e1ddf", func := "loop.example/docalgebra/laws.FnExactDocSize", spec := "fnExactDocSize", recurses := true, loops := true, apart := false, narrowed := true }
def FnExactDocSizeUptoSaid : Prop := fnExactDocSizeUptoRow.holds Try.pinned (OpenSpec.upto fnExactDocSizeSpec)

/-- 'laws.FnExactCountOps', WHERE WHAT IT READS IS OF BULK AT MOST 1048576: true; the input reads as it did. -/
def fnExactCountOpsUptoRow : OpenClaim := { program := "ytmhjkpepbjphcaa", sum := "2bd3d958647d73df0fd592fe5b6aeb18ebd9c59d51f9833a7235ade76b6e1ddf", func := "loop.example/docalgebra/laws.FnExactCountOps", spec := "fnExactCountOps", recurses := true, loops := true, apart := false, narrowed := true }
def FnExactCountOpsUptoSaid : Prop := fnExactCountOpsUptoRow.holds Try.pinned (OpenSpec.upto fnExactCountOpsSpec)

/-- 'laws.FnExactDocSame', WHERE WHAT IT READS IS OF BULK AT MOST 1048576: true; the input reads as it did. -/
def fnExactDocSameUptoRow : OpenClaim := { program := "ytmhjkpepbjphcaa", sum := "2bd3d958647d73df0fd592fe5b6aeb18ebd9c59d51f9833a7235ade76b6e1ddf", func := "loop.example/docalgebra/laws.FnExactDocSame", spec := "fnExactDocSame", recurses := true, loops := true, apart := false, narrowed := true }
def FnExactDocSameUptoSaid : Prop := fnExactDocSameUptoRow.holds Try.pinned (OpenSpec.upto fnExactDocSameSpec)

/-- 'laws.FnExactLayoutValid', WHERE WHAT IT READS IS OF BULK AT MOST 1048576: true; the input reads as it did. -/
def fnExactLayoutValidUptoRow : OpenClaim := { program := "ytmhjkpepbjphcaa", sum := "2bd3d958647d73df0fd592fe5b6aeb18ebd9c59d51f9833a7235ade76b6e1ddf", func := "loop.example/docalgebra/laws.FnExactLayoutValid", spec := "fnExactLayoutValid", inPlace := ["internal/bytealg.IndexByteString"], apart := false, narrowed := true }
def FnExactLayoutValidUptoSaid : Prop := fnExactLayoutValidUptoRow.holds Try.pinned (OpenSpec.upto fnExactLayoutValidSpec)

end Rows
end Go.Proofs.Ytmhjkpepbjphcaa
