/-
  No cell of these rows narrows 'for every input' (looked for: loops, veiled, ifaces, maps, wideKeys, modest, calm, conditions, laid).
  DERIVED. THE GIVEN ROWS OF THIS SEAT. 10 by the template 'for every input the law returns true; each argument reads behind the call as it read before'; 0 by the template 'total and deterministic' (their statements: YtdkjlbbbdjkhbaaTotals.lean).
  GIVEN WITH THE SEED: the statements are not yours to turn. If you find one false, say at which input.
  Laid BY PROGRAM, IN A SANDBOX (cutbox-rows.mjs): the forced cells as the released guide's own fill.sh prints them over the translation 442dd10ceb60c4a0… (all of the seat's roots in one cut). By AI agents, Wed Nov 11 2026. No macro, syntax, notation, axiom, sorry.
-/
import Derived.Test.YtdkjlbbbdjkhbaaChecked
import GoSem.Claim
import GoSem.ClaimJoined
import GoSem.ClaimMapViews
import Derived.JoinedTies
import Derived.KernelRfl
namespace Go.Proofs.Ytdkjlbbbdjkhbaa
/- THE CELL 'sum', in the pinned program and in every row, IS THE sha256 OF THE DUMP (.gsa) THAT YtdkjlbbbdjkhbaaProg.lean LOADS. Nothing in Lean hashes anything: it is a label: what it is worth is what the hold of that sum in a sandbox is worth. -/
noncomputable def Try.pinned : Pinned := { name := "ytdkjlbbbdjkhbaa", sum := "442dd10ceb60c4a0df5917525fc90792d8058c3342286b11cbda4cd367bd12a7", checked := Try.checked }
namespace Rows
def none {H : Type} : Left H := { results := [], args := [] }

/-- 'bolterlaw14.ActionGoal': WHATEVER THE INPUT: true; the input reads as it did. -/
def actionGoalSpec : ChangeSpec := { name := "actionGoal", fn := fun _ => fun
  | [d1, d2, d3, d4, d5] => { results := [.lit (.bool true)], args := [d1, d2, d3, d4, d5] }
  | _ => none }
def actionGoalRow : OpenClaim := { program := "ytdkjlbbbdjkhbaa", sum := "442dd10ceb60c4a0df5917525fc90792d8058c3342286b11cbda4cd367bd12a7", func := "bolter/bolterlaw14.ActionGoal", spec := "actionGoal", inPlace := ["internal/abi.NoEscape"], apart := false }
def ActionGoalSaid : Prop := actionGoalRow.holds Try.pinned (OpenSpec.ofChange actionGoalSpec)

/-- ITS FALSE NEIGHBOUR: 'it returns false'. Refute it at one input. -/
def actionGoalWrong : ChangeSpec := { name := "actionGoal", fn := fun _ => fun
  | [d1, d2, d3, d4, d5] => { results := [.lit (.bool false)], args := [d1, d2, d3, d4, d5] }
  | _ => none }
def ActionGoalWrongFalsely : Prop := actionGoalRow.holds Try.pinned (OpenSpec.ofChange actionGoalWrong)

/-- 'bolterlaw14.ActionOf': WHATEVER THE INPUT: true; the input reads as it did. -/
def actionOfSpec : ChangeSpec := { name := "actionOf", fn := fun _ => fun
  | [d1, d2, d3] => { results := [.lit (.bool true)], args := [d1, d2, d3] }
  | _ => none }
def actionOfRow : OpenClaim := { program := "ytdkjlbbbdjkhbaa", sum := "442dd10ceb60c4a0df5917525fc90792d8058c3342286b11cbda4cd367bd12a7", func := "bolter/bolterlaw14.ActionOf", spec := "actionOf", inPlace := ["internal/abi.NoEscape"], apart := false }
def ActionOfSaid : Prop := actionOfRow.holds Try.pinned (OpenSpec.ofChange actionOfSpec)

/-- ITS FALSE NEIGHBOUR: 'it returns false'. Refute it at one input. -/
def actionOfWrong : ChangeSpec := { name := "actionOf", fn := fun _ => fun
  | [d1, d2, d3] => { results := [.lit (.bool false)], args := [d1, d2, d3] }
  | _ => none }
def ActionOfWrongFalsely : Prop := actionOfRow.holds Try.pinned (OpenSpec.ofChange actionOfWrong)

/-- 'bolterlaw14.ActionSame': WHATEVER THE INPUT: true; the input reads as it did. -/
def actionSameSpec : ChangeSpec := { name := "actionSame", fn := fun _ => fun
  | [d1, d2, d3, d4, d5] => { results := [.lit (.bool true)], args := [d1, d2, d3, d4, d5] }
  | _ => none }
def actionSameRow : OpenClaim := { program := "ytdkjlbbbdjkhbaa", sum := "442dd10ceb60c4a0df5917525fc90792d8058c3342286b11cbda4cd367bd12a7", func := "bolter/bolterlaw14.ActionSame", spec := "actionSame", inPlace := ["internal/abi.NoEscape"], apart := false }
def ActionSameSaid : Prop := actionSameRow.holds Try.pinned (OpenSpec.ofChange actionSameSpec)

/-- ITS FALSE NEIGHBOUR: 'it returns false'. Refute it at one input. -/
def actionSameWrong : ChangeSpec := { name := "actionSame", fn := fun _ => fun
  | [d1, d2, d3, d4, d5] => { results := [.lit (.bool false)], args := [d1, d2, d3, d4, d5] }
  | _ => none }
def ActionSameWrongFalsely : Prop := actionSameRow.holds Try.pinned (OpenSpec.ofChange actionSameWrong)

/-- 'bolterlaw14.ActionLocal': WHATEVER THE INPUT: true; the input reads as it did. -/
def actionLocalSpec : ChangeSpec := { name := "actionLocal", fn := fun _ => fun
  | [d1, d2] => { results := [.lit (.bool true)], args := [d1, d2] }
  | _ => none }
def actionLocalRow : OpenClaim := { program := "ytdkjlbbbdjkhbaa", sum := "442dd10ceb60c4a0df5917525fc90792d8058c3342286b11cbda4cd367bd12a7", func := "bolter/bolterlaw14.ActionLocal", spec := "actionLocal", inPlace := ["internal/abi.NoEscape"], apart := false }
def ActionLocalSaid : Prop := actionLocalRow.holds Try.pinned (OpenSpec.ofChange actionLocalSpec)

/-- ITS FALSE NEIGHBOUR: 'it returns false'. Refute it at one input. -/
def actionLocalWrong : ChangeSpec := { name := "actionLocal", fn := fun _ => fun
  | [d1, d2] => { results := [.lit (.bool false)], args := [d1, d2] }
  | _ => none }
def ActionLocalWrongFalsely : Prop := actionLocalRow.holds Try.pinned (OpenSpec.ofChange actionLocalWrong)

/-- 'bolterlaw14.ActionOver': WHATEVER THE INPUT: true; the input reads as it did. -/
def actionOverSpec : ChangeSpec := { name := "actionOver", fn := fun _ => fun
  | [d1, d2, d3, d4] => { results := [.lit (.bool true)], args := [d1, d2, d3, d4] }
  | _ => none }
def actionOverRow : OpenClaim := { program := "ytdkjlbbbdjkhbaa", sum := "442dd10ceb60c4a0df5917525fc90792d8058c3342286b11cbda4cd367bd12a7", func := "bolter/bolterlaw14.ActionOver", spec := "actionOver", inPlace := ["internal/abi.NoEscape"], apart := false }
def ActionOverSaid : Prop := actionOverRow.holds Try.pinned (OpenSpec.ofChange actionOverSpec)

/-- ITS FALSE NEIGHBOUR: 'it returns false'. Refute it at one input. -/
def actionOverWrong : ChangeSpec := { name := "actionOver", fn := fun _ => fun
  | [d1, d2, d3, d4] => { results := [.lit (.bool false)], args := [d1, d2, d3, d4] }
  | _ => none }
def ActionOverWrongFalsely : Prop := actionOverRow.holds Try.pinned (OpenSpec.ofChange actionOverWrong)

/-- 'bolterlaw21.ReplyBase': WHATEVER THE INPUT: true; the input reads as it did. -/
def replyBaseSpec : ChangeSpec := { name := "replyBase", fn := fun _ => fun
  | [d1, d2, d3] => { results := [.lit (.bool true)], args := [d1, d2, d3] }
  | _ => none }
def replyBaseRow : OpenClaim := { program := "ytdkjlbbbdjkhbaa", sum := "442dd10ceb60c4a0df5917525fc90792d8058c3342286b11cbda4cd367bd12a7", func := "bolter/bolterlaw21.ReplyBase", spec := "replyBase", inPlace := ["internal/abi.NoEscape"], apart := false }
def ReplyBaseSaid : Prop := replyBaseRow.holds Try.pinned (OpenSpec.ofChange replyBaseSpec)

/-- ITS FALSE NEIGHBOUR: 'it returns false'. Refute it at one input. -/
def replyBaseWrong : ChangeSpec := { name := "replyBase", fn := fun _ => fun
  | [d1, d2, d3] => { results := [.lit (.bool false)], args := [d1, d2, d3] }
  | _ => none }
def ReplyBaseWrongFalsely : Prop := replyBaseRow.holds Try.pinned (OpenSpec.ofChange replyBaseWrong)

/-- 'bolterlaw21.ReplyOf': WHATEVER THE INPUT: true; the input reads as it did. -/
def replyOfSpec : ChangeSpec := { name := "replyOf", fn := fun _ => fun
  | [d1, d2, d3, d4, d5] => { results := [.lit (.bool true)], args := [d1, d2, d3, d4, d5] }
  | _ => none }
def replyOfRow : OpenClaim := { program := "ytdkjlbbbdjkhbaa", sum := "442dd10ceb60c4a0df5917525fc90792d8058c3342286b11cbda4cd367bd12a7", func := "bolter/bolterlaw21.ReplyOf", spec := "replyOf", inPlace := ["internal/abi.NoEscape"], apart := false }
def ReplyOfSaid : Prop := replyOfRow.holds Try.pinned (OpenSpec.ofChange replyOfSpec)

/-- ITS FALSE NEIGHBOUR: 'it returns false'. Refute it at one input. -/
def replyOfWrong : ChangeSpec := { name := "replyOf", fn := fun _ => fun
  | [d1, d2, d3, d4, d5] => { results := [.lit (.bool false)], args := [d1, d2, d3, d4, d5] }
  | _ => none }
def ReplyOfWrongFalsely : Prop := replyOfRow.holds Try.pinned (OpenSpec.ofChange replyOfWrong)

/-- 'bolterlaw21.ReplyHides': WHATEVER THE INPUT: true; the input reads as it did. -/
def replyHidesSpec : ChangeSpec := { name := "replyHides", fn := fun _ => fun
  | [d1, d2, d3, d4, d5] => { results := [.lit (.bool true)], args := [d1, d2, d3, d4, d5] }
  | _ => none }
def replyHidesRow : OpenClaim := { program := "ytdkjlbbbdjkhbaa", sum := "442dd10ceb60c4a0df5917525fc90792d8058c3342286b11cbda4cd367bd12a7", func := "bolter/bolterlaw21.ReplyHides", spec := "replyHides", inPlace := ["internal/abi.NoEscape"], apart := false }
def ReplyHidesSaid : Prop := replyHidesRow.holds Try.pinned (OpenSpec.ofChange replyHidesSpec)

/-- ITS FALSE NEIGHBOUR: 'it returns false'. Refute it at one input. -/
def replyHidesWrong : ChangeSpec := { name := "replyHides", fn := fun _ => fun
  | [d1, d2, d3, d4, d5] => { results := [.lit (.bool false)], args := [d1, d2, d3, d4, d5] }
  | _ => none }
def ReplyHidesWrongFalsely : Prop := replyHidesRow.holds Try.pinned (OpenSpec.ofChange replyHidesWrong)

/-- 'bolterlaw21.ReplyChanges': WHATEVER THE INPUT: true; the input reads as it did. -/
def replyChangesSpec : ChangeSpec := { name := "replyChanges", fn := fun _ => fun
  | [d1, d2, d3, d4] => { results := [.lit (.bool true)], args := [d1, d2, d3, d4] }
  | _ => none }
def replyChangesRow : OpenClaim := { program := "ytdkjlbbbdjkhbaa", sum := "442dd10ceb60c4a0df5917525fc90792d8058c3342286b11cbda4cd367bd12a7", func := "bolter/bolterlaw21.ReplyChanges", spec := "replyChanges", inPlace := ["internal/abi.NoEscape"], apart := false }
def ReplyChangesSaid : Prop := replyChangesRow.holds Try.pinned (OpenSpec.ofChange replyChangesSpec)

/-- ITS FALSE NEIGHBOUR: 'it returns false'. Refute it at one input. -/
def replyChangesWrong : ChangeSpec := { name := "replyChanges", fn := fun _ => fun
  | [d1, d2, d3, d4] => { results := [.lit (.bool false)], args := [d1, d2, d3, d4] }
  | _ => none }
def ReplyChangesWrongFalsely : Prop := replyChangesRow.holds Try.pinned (OpenSpec.ofChange replyChangesWrong)

/-- 'bolterlaw21.ReplyFinds': WHATEVER THE INPUT: true; the input reads as it did. -/
def replyFindsSpec : ChangeSpec := { name := "replyFinds", fn := fun _ => fun
  | [d1, d2] => { results := [.lit (.bool true)], args := [d1, d2] }
  | _ => none }
def replyFindsRow : OpenClaim := { program := "ytdkjlbbbdjkhbaa", sum := "442dd10ceb60c4a0df5917525fc90792d8058c3342286b11cbda4cd367bd12a7", func := "bolter/bolterlaw21.ReplyFinds", spec := "replyFinds", inPlace := ["internal/abi.NoEscape"], apart := false }
def ReplyFindsSaid : Prop := replyFindsRow.holds Try.pinned (OpenSpec.ofChange replyFindsSpec)

/-- ITS FALSE NEIGHBOUR: 'it returns false'. Refute it at one input. -/
def replyFindsWrong : ChangeSpec := { name := "replyFinds", fn := fun _ => fun
  | [d1, d2] => { results := [.lit (.bool false)], args := [d1, d2] }
  | _ => none }
def ReplyFindsWrongFalsely : Prop := replyFindsRow.holds Try.pinned (OpenSpec.ofChange replyFindsWrong)

/- THE SECOND FORM. 'bulk': how many values and letters a reading holds, each counted each time it is reached (what is shared counts as often as it is met; a slice's spare places count too). A statement '..UptoSaid' is the law's where the arguments, and the package variables that the reading takes, are together of bulk at most 1048576: NARROWER than '..Said'. Prove '..Said' where nothing that the law and all that it calls make is longer than what came in: it says more and counts as full. Else prove '..UptoSaid'. A law counts once. -/
mutual
def uptoBulk {H : Type} : DataW H → Nat
  | .lit (.string bytes) => bytes.length + 1
  | .lit _ => 1
  | .nil => 1
  | .ptr d => uptoBulk d + 1
  | .slice elems spare => uptoBulkAll elems + uptoBulkAll spare + 1
  | .agg parts => uptoBulkAll parts + 1
  | .iface _ d => uptoBulk d + 1
  | .map entries => uptoBulkEntries entries + 1
  | .held _ => 1
def uptoBulkAll {H : Type} : List (DataW H) → Nat
  | [] => 0
  | d :: r => uptoBulk d + uptoBulkAll r
def uptoBulkEntries {H : Type} : List (Lit × DataW H) → Nat
  | [] => 0
  | x :: r => uptoBulkEntry x + uptoBulkEntries r
def uptoBulkEntry {H : Type} : Lit × DataW H → Nat
  | (.string bytes, d) => bytes.length + uptoBulk d + 1
  | (_, d) => uptoBulk d + 1
 end
def uptoSmall : (H : Type) → List (DataW H) → Bool := fun _ ds => decide (uptoBulkAll ds ≤ 1048576)
def OpenSpec.upto (s : _root_.Go.ChangeSpec) : _root_.Go.OpenSpec := { _root_.Go.OpenSpec.ofChange s with cond := some uptoSmall }

/-- 'bolterlaw14.ActionGoal', WHERE WHAT IT READS IS OF BULK AT MOST 1048576: true; the input reads as it did. -/
def actionGoalUptoRow : OpenClaim := { program := "ytdkjlbbbdjkhbaa", sum := "442dd10ceb60c4a0df5917525fc90792d8058c3342286b11cbda4cd367bd12a7", func := "bolter/bolterlaw14.ActionGoal", spec := "actionGoal", inPlace := ["internal/abi.NoEscape"], apart := false, narrowed := true }
def ActionGoalUptoSaid : Prop := actionGoalUptoRow.holds Try.pinned (OpenSpec.upto actionGoalSpec)

/-- 'bolterlaw14.ActionOf', WHERE WHAT IT READS IS OF BULK AT MOST 1048576: true; the input reads as it did. -/
def actionOfUptoRow : OpenClaim := { program := "ytdkjlbbbdjkhbaa", sum := "442dd10ceb60c4a0df5917525fc90792d8058c3342286b11cbda4cd367bd12a7", func := "bolter/bolterlaw14.ActionOf", spec := "actionOf", inPlace := ["internal/abi.NoEscape"], apart := false, narrowed := true }
def ActionOfUptoSaid : Prop := actionOfUptoRow.holds Try.pinned (OpenSpec.upto actionOfSpec)

/-- 'bolterlaw14.ActionSame', WHERE WHAT IT READS IS OF BULK AT MOST 1048576: true; the input reads as it did. -/
def actionSameUptoRow : OpenClaim := { program := "ytdkjlbbbdjkhbaa", sum := "442dd10ceb60c4a0df5917525fc90792d8058c3342286b11cbda4cd367bd12a7", func := "bolter/bolterlaw14.ActionSame", spec := "actionSame", inPlace := ["internal/abi.NoEscape"], apart := false, narrowed := true }
def ActionSameUptoSaid : Prop := actionSameUptoRow.holds Try.pinned (OpenSpec.upto actionSameSpec)

/-- 'bolterlaw14.ActionLocal', WHERE WHAT IT READS IS OF BULK AT MOST 1048576: true; the input reads as it did. -/
def actionLocalUptoRow : OpenClaim := { program := "ytdkjlbbbdjkhbaa", sum := "442dd10ceb60c4a0df5917525fc90792d8058c3342286b11cbda4cd367bd12a7", func := "bolter/bolterlaw14.ActionLocal", spec := "actionLocal", inPlace := ["internal/abi.NoEscape"], apart := false, narrowed := true }
def ActionLocalUptoSaid : Prop := actionLocalUptoRow.holds Try.pinned (OpenSpec.upto actionLocalSpec)

/-- 'bolterlaw14.ActionOver', WHERE WHAT IT READS IS OF BULK AT MOST 1048576: true; the input reads as it did. -/
def actionOverUptoRow : OpenClaim := { program := "ytdkjlbbbdjkhbaa", sum := "442dd10ceb60c4a0df5917525fc90792d8058c3342286b11cbda4cd367bd12a7", func := "bolter/bolterlaw14.ActionOver", spec := "actionOver", inPlace := ["internal/abi.NoEscape"], apart := false, narrowed := true }
def ActionOverUptoSaid : Prop := actionOverUptoRow.holds Try.pinned (OpenSpec.upto actionOverSpec)

/-- 'bolterlaw21.ReplyBase', WHERE WHAT IT READS IS OF BULK AT MOST 1048576: true; the input reads as it did. -/
def replyBaseUptoRow : OpenClaim := { program := "ytdkjlbbbdjkhbaa", sum := "442dd10ceb60c4a0df5917525fc90792d8058c3342286b11cbda4cd367bd12a7", func := "bolter/bolterlaw21.ReplyBase", spec := "replyBase", inPlace := ["internal/abi.NoEscape"], apart := false, narrowed := true }
def ReplyBaseUptoSaid : Prop := replyBaseUptoRow.holds Try.pinned (OpenSpec.upto replyBaseSpec)

/-- 'bolterlaw21.ReplyOf', WHERE WHAT IT READS IS OF BULK AT MOST 1048576: true; the input reads as it did. -/
def replyOfUptoRow : OpenClaim := { program := "ytdkjlbbbdjkhbaa", sum := "442dd10ceb60c4a0df5917525fc90792d8058c3342286b11cbda4cd367bd12a7", func := "bolter/bolterlaw21.ReplyOf", spec := "replyOf", inPlace := ["internal/abi.NoEscape"], apart := false, narrowed := true }
def ReplyOfUptoSaid : Prop := replyOfUptoRow.holds Try.pinned (OpenSpec.upto replyOfSpec)

/-- 'bolterlaw21.ReplyHides', WHERE WHAT IT READS IS OF BULK AT MOST 1048576: true; the input reads as it did. -/
def replyHidesUptoRow : OpenClaim := { program := "ytdkjlbbbdjkhbaa", sum := "442dd10ceb60c4a0df5917525fc90792d8058c3342286b11cbda4cd367bd12a7", func := "bolter/bolterlaw21.ReplyHides", spec := "replyHides", inPlace := ["internal/abi.NoEscape"], apart := false, narrowed := true }
def ReplyHidesUptoSaid : Prop := replyHidesUptoRow.holds Try.pinned (OpenSpec.upto replyHidesSpec)

/-- 'bolterlaw21.ReplyChanges', WHERE WHAT IT READS IS OF BULK AT MOST 1048576: true; the input reads as it did. -/
def replyChangesUptoRow : OpenClaim := { program := "ytdkjlbbbdjkhbaa", sum := "442dd10ceb60c4a0df5917525fc90792d8058c3342286b11cbda4cd367bd12a7", func := "bolter/bolterlaw21.ReplyChanges", spec := "replyChanges", inPlace := ["internal/abi.NoEscape"], apart := false, narrowed := true }
def ReplyChangesUptoSaid : Prop := replyChangesUptoRow.holds Try.pinned (OpenSpec.upto replyChangesSpec)

/-- 'bolterlaw21.ReplyFinds', WHERE WHAT IT READS IS OF BULK AT MOST 1048576: true; the input reads as it did. -/
def replyFindsUptoRow : OpenClaim := { program := "ytdkjlbbbdjkhbaa", sum := "442dd10ceb60c4a0df5917525fc90792d8058c3342286b11cbda4cd367bd12a7", func := "bolter/bolterlaw21.ReplyFinds", spec := "replyFinds", inPlace := ["internal/abi.NoEscape"], apart := false, narrowed := true }
def ReplyFindsUptoSaid : Prop := replyFindsUptoRow.holds Try.pinned (OpenSpec.upto replyFindsSpec)

end Rows
end Go.Proofs.Ytdkjlbbbdjkhbaa
