/-
  No cell of these rows narrows 'for every input' (looked for: loops, veiled, ifaces, maps, wideKeys, modest, calm, conditions, laid).
  DERIVED. THE GIVEN ROWS OF THIS SEAT. 8 by the template 'for every input the law returns true; each argument reads behind the call as it read before'; 0 by the template 'total and deterministic' (their statements: YtihlimbdgipdeaaTotals.lean).
  GIVEN WITH THE SEED: the statements are not yours to turn. If you find one false, say at which input.
  Laid BY PROGRAM, IN A SANDBOX (cutbox-rows.mjs): the forced cells as the released guide's own fill.sh prints them over the translation ac9c0b0917db24d4… (all of the seat's roots in one cut). By AI agents, Wed Nov 11 2026. No macro, syntax, notation, axiom, sorry.
-/
import Derived.Test.YtihlimbdgipdeaaChecked
import GoSem.Claim
import GoSem.ClaimJoined
import GoSem.ClaimMapViews
import Derived.JoinedTies
import Derived.KernelRfl
namespace Go.Proofs.Ytihlimbdgipdeaa
/- THE CELL 'sum', in the pinned program and in every row, IS THE sha256 OF THE DUMP (.gsa) THAT YtihlimbdgipdeaaProg.lean LOADS. Nothing in Lean hashes anything: it is a label: what it is worth is what the hold of that sum in a sandbox is worth. -/
noncomputable def Try.pinned : Pinned := { name := "ytihlimbdgipdeaa", sum := "ac9c0b0917db24d4a248b0e5835e10414f0947c23bb514b4cdf1ba15ea284ee0", checked := Try.checked }
namespace Rows
def none {H : Type} : Left H := { results := [], args := [] }

/-- 'bolterlaw02.NameFold': WHATEVER THE INPUT: true; the input reads as it did. -/
def nameFoldSpec : ChangeSpec := { name := "nameFold", fn := fun _ => fun
  | [d] => { results := [.lit (.bool true)], args := [d] }
  | _ => none }
def nameFoldRow : OpenClaim := { program := "ytihlimbdgipdeaa", sum := "ac9c0b0917db24d4a248b0e5835e10414f0947c23bb514b4cdf1ba15ea284ee0", func := "bolter/bolterlaw02.NameFold", spec := "nameFold", inPlace := ["internal/abi.NoEscape"], apart := false }
def NameFoldSaid : Prop := nameFoldRow.holds Try.pinned (OpenSpec.ofChange nameFoldSpec)

/-- ITS FALSE NEIGHBOUR: 'it returns false'. Refute it at one input. -/
def nameFoldWrong : ChangeSpec := { name := "nameFold", fn := fun _ => fun
  | [d] => { results := [.lit (.bool false)], args := [d] }
  | _ => none }
def NameFoldWrongFalsely : Prop := nameFoldRow.holds Try.pinned (OpenSpec.ofChange nameFoldWrong)

/-- 'bolterlaw02.NameParent': WHATEVER THE INPUT: true; the input reads as it did. -/
def nameParentSpec : ChangeSpec := { name := "nameParent", fn := fun _ => fun
  | [d] => { results := [.lit (.bool true)], args := [d] }
  | _ => none }
def nameParentRow : OpenClaim := { program := "ytihlimbdgipdeaa", sum := "ac9c0b0917db24d4a248b0e5835e10414f0947c23bb514b4cdf1ba15ea284ee0", func := "bolter/bolterlaw02.NameParent", spec := "nameParent", inPlace := ["internal/abi.NoEscape"], apart := false }
def NameParentSaid : Prop := nameParentRow.holds Try.pinned (OpenSpec.ofChange nameParentSpec)

/-- ITS FALSE NEIGHBOUR: 'it returns false'. Refute it at one input. -/
def nameParentWrong : ChangeSpec := { name := "nameParent", fn := fun _ => fun
  | [d] => { results := [.lit (.bool false)], args := [d] }
  | _ => none }
def NameParentWrongFalsely : Prop := nameParentRow.holds Try.pinned (OpenSpec.ofChange nameParentWrong)

/-- 'bolterlaw02.NameMake': WHATEVER THE INPUT: true; the input reads as it did. -/
def nameMakeSpec : ChangeSpec := { name := "nameMake", fn := fun _ => fun
  | [d] => { results := [.lit (.bool true)], args := [d] }
  | _ => none }
def nameMakeRow : OpenClaim := { program := "ytihlimbdgipdeaa", sum := "ac9c0b0917db24d4a248b0e5835e10414f0947c23bb514b4cdf1ba15ea284ee0", func := "bolter/bolterlaw02.NameMake", spec := "nameMake", inPlace := ["internal/abi.NoEscape"], apart := false }
def NameMakeSaid : Prop := nameMakeRow.holds Try.pinned (OpenSpec.ofChange nameMakeSpec)

/-- ITS FALSE NEIGHBOUR: 'it returns false'. Refute it at one input. -/
def nameMakeWrong : ChangeSpec := { name := "nameMake", fn := fun _ => fun
  | [d] => { results := [.lit (.bool false)], args := [d] }
  | _ => none }
def NameMakeWrongFalsely : Prop := nameMakeRow.holds Try.pinned (OpenSpec.ofChange nameMakeWrong)

/-- 'bolterlaw02.NameLabels': WHATEVER THE INPUT: true; the input reads as it did. -/
def nameLabelsSpec : ChangeSpec := { name := "nameLabels", fn := fun _ => fun
  | [d] => { results := [.lit (.bool true)], args := [d] }
  | _ => none }
def nameLabelsRow : OpenClaim := { program := "ytihlimbdgipdeaa", sum := "ac9c0b0917db24d4a248b0e5835e10414f0947c23bb514b4cdf1ba15ea284ee0", func := "bolter/bolterlaw02.NameLabels", spec := "nameLabels", inPlace := ["internal/abi.NoEscape"], apart := false }
def NameLabelsSaid : Prop := nameLabelsRow.holds Try.pinned (OpenSpec.ofChange nameLabelsSpec)

/-- ITS FALSE NEIGHBOUR: 'it returns false'. Refute it at one input. -/
def nameLabelsWrong : ChangeSpec := { name := "nameLabels", fn := fun _ => fun
  | [d] => { results := [.lit (.bool false)], args := [d] }
  | _ => none }
def NameLabelsWrongFalsely : Prop := nameLabelsRow.holds Try.pinned (OpenSpec.ofChange nameLabelsWrong)

/-- 'bolterlaw02.NameJoin': WHATEVER THE INPUT: true; the input reads as it did. -/
def nameJoinSpec : ChangeSpec := { name := "nameJoin", fn := fun _ => fun
  | [d1, d2] => { results := [.lit (.bool true)], args := [d1, d2] }
  | _ => none }
def nameJoinRow : OpenClaim := { program := "ytihlimbdgipdeaa", sum := "ac9c0b0917db24d4a248b0e5835e10414f0947c23bb514b4cdf1ba15ea284ee0", func := "bolter/bolterlaw02.NameJoin", spec := "nameJoin", inPlace := ["internal/abi.NoEscape"], apart := false }
def NameJoinSaid : Prop := nameJoinRow.holds Try.pinned (OpenSpec.ofChange nameJoinSpec)

/-- ITS FALSE NEIGHBOUR: 'it returns false'. Refute it at one input. -/
def nameJoinWrong : ChangeSpec := { name := "nameJoin", fn := fun _ => fun
  | [d1, d2] => { results := [.lit (.bool false)], args := [d1, d2] }
  | _ => none }
def NameJoinWrongFalsely : Prop := nameJoinRow.holds Try.pinned (OpenSpec.ofChange nameJoinWrong)

/-- 'bolterlaw02.NameBelow': WHATEVER THE INPUT: true; the input reads as it did. -/
def nameBelowSpec : ChangeSpec := { name := "nameBelow", fn := fun _ => fun
  | [d1, d2] => { results := [.lit (.bool true)], args := [d1, d2] }
  | _ => none }
def nameBelowRow : OpenClaim := { program := "ytihlimbdgipdeaa", sum := "ac9c0b0917db24d4a248b0e5835e10414f0947c23bb514b4cdf1ba15ea284ee0", func := "bolter/bolterlaw02.NameBelow", spec := "nameBelow", inPlace := ["internal/abi.NoEscape"], apart := false }
def NameBelowSaid : Prop := nameBelowRow.holds Try.pinned (OpenSpec.ofChange nameBelowSpec)

/-- ITS FALSE NEIGHBOUR: 'it returns false'. Refute it at one input. -/
def nameBelowWrong : ChangeSpec := { name := "nameBelow", fn := fun _ => fun
  | [d1, d2] => { results := [.lit (.bool false)], args := [d1, d2] }
  | _ => none }
def NameBelowWrongFalsely : Prop := nameBelowRow.holds Try.pinned (OpenSpec.ofChange nameBelowWrong)

/-- 'bolterlaw02.NameText': WHATEVER THE INPUT: true; the input reads as it did. -/
def nameTextSpec : ChangeSpec := { name := "nameText", fn := fun _ => fun
  | [d] => { results := [.lit (.bool true)], args := [d] }
  | _ => none }
def nameTextRow : OpenClaim := { program := "ytihlimbdgipdeaa", sum := "ac9c0b0917db24d4a248b0e5835e10414f0947c23bb514b4cdf1ba15ea284ee0", func := "bolter/bolterlaw02.NameText", spec := "nameText", inPlace := ["internal/abi.NoEscape"], apart := false }
def NameTextSaid : Prop := nameTextRow.holds Try.pinned (OpenSpec.ofChange nameTextSpec)

/-- ITS FALSE NEIGHBOUR: 'it returns false'. Refute it at one input. -/
def nameTextWrong : ChangeSpec := { name := "nameText", fn := fun _ => fun
  | [d] => { results := [.lit (.bool false)], args := [d] }
  | _ => none }
def NameTextWrongFalsely : Prop := nameTextRow.holds Try.pinned (OpenSpec.ofChange nameTextWrong)

/-- 'bolterlaw02.NameParse': WHATEVER THE INPUT: true; the input reads as it did. -/
def nameParseSpec : ChangeSpec := { name := "nameParse", fn := fun _ => fun
  | [d] => { results := [.lit (.bool true)], args := [d] }
  | _ => none }
def nameParseRow : OpenClaim := { program := "ytihlimbdgipdeaa", sum := "ac9c0b0917db24d4a248b0e5835e10414f0947c23bb514b4cdf1ba15ea284ee0", func := "bolter/bolterlaw02.NameParse", spec := "nameParse", inPlace := ["internal/abi.NoEscape"], apart := false }
def NameParseSaid : Prop := nameParseRow.holds Try.pinned (OpenSpec.ofChange nameParseSpec)

/-- ITS FALSE NEIGHBOUR: 'it returns false'. Refute it at one input. -/
def nameParseWrong : ChangeSpec := { name := "nameParse", fn := fun _ => fun
  | [d] => { results := [.lit (.bool false)], args := [d] }
  | _ => none }
def NameParseWrongFalsely : Prop := nameParseRow.holds Try.pinned (OpenSpec.ofChange nameParseWrong)

/- THE SECOND FORM. 'bulk': how many values and letters a reading holds, each counted each time it is reached (what is shared counts as often as it is met; a slice's spare places count too). A statement '..UptoSaid' is the law's where the arguments, and the package variables that the reading takes, are together of bulk at most 1048576: NARROWER than '..Said'. Prove '..Said' where nothing that the law and all that it calls make is longer than what came in: it says more and counts as full. Else prove '..UptoSaid'. A law counts once. -/
mutual
def uptoBulk {H : Type} : DataW H → Nat
  | .lit (.string bytes) => bytes.length + 1
  | .lit _ => 1
  | .nil => 1
  | .ptr d => uptoBulk d + 1
  | .slice elems spare => uptoBulkAll elems + uptoBulkAll spare + 1
  | .agg parts => uptoBulkAll parts + 1
  | .iface _ d => uptoBulk d + 1
  | .map entries => uptoBulkEntries entries + 1
  | .held _ => 1
def uptoBulkAll {H : Type} : List (DataW H) → Nat
  | [] => 0
  | d :: r => uptoBulk d + uptoBulkAll r
def uptoBulkEntries {H : Type} : List (Lit × DataW H) → Nat
  | [] => 0
  | x :: r => uptoBulkEntry x + uptoBulkEntries r
def uptoBulkEntry {H : Type} : Lit × DataW H → Nat
  | (.string bytes, d) => bytes.length + uptoBulk d + 1
  | (_, d) => uptoBulk d + 1
 end
def uptoSmall : (H : Type) → List (DataW H) → Bool := fun _ ds => decide (uptoBulkAll ds ≤ 1048576)
def OpenSpec.upto (s : _root_.Go.ChangeSpec) : _root_.Go.OpenSpec := { _root_.Go.OpenSpec.ofChange s with cond := some uptoSmall }

/-- 'bolterlaw02.NameFold', WHERE WHAT IT READS IS OF BULK AT MOST 1048576: true; the input reads as it did. -/
def nameFoldUptoRow : OpenClaim := { program := "ytihlimbdgipdeaa", sum := "ac9c0b0917db24d4a248b0e5835e10414f0947c23bb514b4cdf1ba15ea284ee0", func := "bolter/bolterlaw02.NameFold", spec := "nameFold", inPlace := ["internal/abi.NoEscape"], apart := false, narrowed := true }
def NameFoldUptoSaid : Prop := nameFoldUptoRow.holds Try.pinned (OpenSpec.upto nameFoldSpec)

/-- 'bolterlaw02.NameParent', WHERE WHAT IT READS IS OF BULK AT MOST 1048576: true; the input reads as it did. -/
def nameParentUptoRow : OpenClaim := { program := "ytihlimbdgipdeaa", sum := "ac9c0b0917db24d4a248b0e5835e10414f0947c23bb514b4cdf1ba15ea284ee0", func := "bolter/bolterlaw02.NameParent", spec := "nameParent", inPlace := ["internal/abi.NoEscape"], apart := false, narrowed := true }
def NameParentUptoSaid : Prop := nameParentUptoRow.holds Try.pinned (OpenSpec.upto nameParentSpec)

/-- 'bolterlaw02.NameMake', WHERE WHAT IT READS IS OF BULK AT MOST 1048576: true; the input reads as it did. -/
def nameMakeUptoRow : OpenClaim := { program := "ytihlimbdgipdeaa", sum := "ac9c0b0917db24d4a248b0e5835e10414f0947c23bb514b4cdf1ba15ea284ee0", func := "bolter/bolterlaw02.NameMake", spec := "nameMake", inPlace := ["internal/abi.NoEscape"], apart := false, narrowed := true }
def NameMakeUptoSaid : Prop := nameMakeUptoRow.holds Try.pinned (OpenSpec.upto nameMakeSpec)

/-- 'bolterlaw02.NameLabels', WHERE WHAT IT READS IS OF BULK AT MOST 1048576: true; the input reads as it did. -/
def nameLabelsUptoRow : OpenClaim := { program := "ytihlimbdgipdeaa", sum := "ac9c0b0917db24d4a248b0e5835e10414f0947c23bb514b4cdf1ba15ea284ee0", func := "bolter/bolterlaw02.NameLabels", spec := "nameLabels", inPlace := ["internal/abi.NoEscape"], apart := false, narrowed := true }
def NameLabelsUptoSaid : Prop := nameLabelsUptoRow.holds Try.pinned (OpenSpec.upto nameLabelsSpec)

/-- 'bolterlaw02.NameJoin', WHERE WHAT IT READS IS OF BULK AT MOST 1048576: true; the input reads as it did. -/
def nameJoinUptoRow : OpenClaim := { program := "ytihlimbdgipdeaa", sum := "ac9c0b0917db24d4a248b0e5835e10414f0947c23bb514b4cdf1ba15ea284ee0", func := "bolter/bolterlaw02.NameJoin", spec := "nameJoin", inPlace := ["internal/abi.NoEscape"], apart := false, narrowed := true }
def NameJoinUptoSaid : Prop := nameJoinUptoRow.holds Try.pinned (OpenSpec.upto nameJoinSpec)

/-- 'bolterlaw02.NameBelow', WHERE WHAT IT READS IS OF BULK AT MOST 1048576: true; the input reads as it did. -/
def nameBelowUptoRow : OpenClaim := { program := "ytihlimbdgipdeaa", sum := "ac9c0b0917db24d4a248b0e5835e10414f0947c23bb514b4cdf1ba15ea284ee0", func := "bolter/bolterlaw02.NameBelow", spec := "nameBelow", inPlace := ["internal/abi.NoEscape"], apart := false, narrowed := true }
def NameBelowUptoSaid : Prop := nameBelowUptoRow.holds Try.pinned (OpenSpec.upto nameBelowSpec)

/-- 'bolterlaw02.NameText', WHERE WHAT IT READS IS OF BULK AT MOST 1048576: true; the input reads as it did. -/
def nameTextUptoRow : OpenClaim := { program := "ytihlimbdgipdeaa", sum := "ac9c0b0917db24d4a248b0e5835e10414f0947c23bb514b4cdf1ba15ea284ee0", func := "bolter/bolterlaw02.NameText", spec := "nameText", inPlace := ["internal/abi.NoEscape"], apart := false, narrowed := true }
def NameTextUptoSaid : Prop := nameTextUptoRow.holds Try.pinned (OpenSpec.upto nameTextSpec)

/-- 'bolterlaw02.NameParse', WHERE WHAT IT READS IS OF BULK AT MOST 1048576: true; the input reads as it did. -/
def nameParseUptoRow : OpenClaim := { program := "ytihlimbdgipdeaa", sum := "ac9c0b0917db24d4a248b0e5835e10414f0947c23bb514b4cdf1ba15ea284ee0", func := "bolter/bolterlaw02.NameParse", spec := "nameParse", inPlace := ["internal/abi.NoEscape"], apart := false, narrowed := true }
def NameParseUptoSaid : Prop := nameParseUptoRow.holds Try.pinned (OpenSpec.upto nameParseSpec)

end Rows
end Go.Proofs.Ytihlimbdgipdeaa
