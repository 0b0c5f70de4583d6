/-
  No cell of these rows narrows 'for every input' (looked for: loops, veiled, ifaces, maps, wideKeys, modest, calm, conditions, laid).
  DERIVED. THE GIVEN ROWS OF THIS SEAT. 11 by the template 'for every input the law returns true; each argument reads behind the call as it read before'; 0 by the template 'total and deterministic' (their statements: YtbnmpopcnpjjdaaTotals.lean).
  GIVEN WITH THE SEED: the statements are not yours to turn. If you find one false, say at which input.
  Laid BY PROGRAM, IN A SANDBOX (cutbox-rows.mjs): the forced cells as the released guide's own fill.sh prints them over the translation 383dc6a842dde7fe… (all of the seat's roots in one cut). By AI agents, Wed Nov 11 2026. No macro, syntax, notation, axiom, sorry.
-/
import Derived.Test.YtbnmpopcnpjjdaaChecked
import GoSem.Claim
import GoSem.ClaimJoined
import GoSem.ClaimMapViews
import Derived.JoinedTies
import Derived.KernelRfl
namespace Go.Proofs.Ytbnmpopcnpjjdaa
/- THE CELL 'sum', in the pinned program and in every row, IS THE sha256 OF THE DUMP (.gsa) THAT YtbnmpopcnpjjdaaProg.lean LOADS. Nothing in Lean hashes anything: it is a label: what it is worth is what the hold of that sum in a sandbox is worth. -/
noncomputable def Try.pinned : Pinned := { name := "ytbnmpopcnpjjdaa", sum := "383dc6a842dde7fe64055be2bb1b95f218f8fba005895a316e2b0b936c0607d0", checked := Try.checked }
namespace Rows
def none {H : Type} : Left H := { results := [], args := [] }

/-- 'bolterlaw06.SerialLater': WHATEVER THE INPUT: true; the input reads as it did. -/
def serialLaterSpec : ChangeSpec := { name := "serialLater", fn := fun _ => fun
  | [d1, d2] => { results := [.lit (.bool true)], args := [d1, d2] }
  | _ => none }
def serialLaterRow : OpenClaim := { program := "ytbnmpopcnpjjdaa", sum := "383dc6a842dde7fe64055be2bb1b95f218f8fba005895a316e2b0b936c0607d0", func := "bolter/bolterlaw06.SerialLater", spec := "serialLater", apart := false }
def SerialLaterSaid : Prop := serialLaterRow.holds Try.pinned (OpenSpec.ofChange serialLaterSpec)

/-- ITS FALSE NEIGHBOUR: 'it returns false'. Refute it at one input. -/
def serialLaterWrong : ChangeSpec := { name := "serialLater", fn := fun _ => fun
  | [d1, d2] => { results := [.lit (.bool false)], args := [d1, d2] }
  | _ => none }
def SerialLaterWrongFalsely : Prop := serialLaterRow.holds Try.pinned (OpenSpec.ofChange serialLaterWrong)

/-- 'bolterlaw06.SerialTurn': WHATEVER THE INPUT: true; the input reads as it did. -/
def serialTurnSpec : ChangeSpec := { name := "serialTurn", fn := fun _ => fun
  | [d1, d2, d3] => { results := [.lit (.bool true)], args := [d1, d2, d3] }
  | _ => none }
def serialTurnRow : OpenClaim := { program := "ytbnmpopcnpjjdaa", sum := "383dc6a842dde7fe64055be2bb1b95f218f8fba005895a316e2b0b936c0607d0", func := "bolter/bolterlaw06.SerialTurn", spec := "serialTurn", apart := false }
def SerialTurnSaid : Prop := serialTurnRow.holds Try.pinned (OpenSpec.ofChange serialTurnSpec)

/-- ITS FALSE NEIGHBOUR: 'it returns false'. Refute it at one input. -/
def serialTurnWrong : ChangeSpec := { name := "serialTurn", fn := fun _ => fun
  | [d1, d2, d3] => { results := [.lit (.bool false)], args := [d1, d2, d3] }
  | _ => none }
def SerialTurnWrongFalsely : Prop := serialTurnRow.holds Try.pinned (OpenSpec.ofChange serialTurnWrong)

/-- 'bolterlaw06.SerialAdd': WHATEVER THE INPUT: true; the input reads as it did. -/
def serialAddSpec : ChangeSpec := { name := "serialAdd", fn := fun _ => fun
  | [d1, d2] => { results := [.lit (.bool true)], args := [d1, d2] }
  | _ => none }
def serialAddRow : OpenClaim := { program := "ytbnmpopcnpjjdaa", sum := "383dc6a842dde7fe64055be2bb1b95f218f8fba005895a316e2b0b936c0607d0", func := "bolter/bolterlaw06.SerialAdd", spec := "serialAdd", apart := false }
def SerialAddSaid : Prop := serialAddRow.holds Try.pinned (OpenSpec.ofChange serialAddSpec)

/-- ITS FALSE NEIGHBOUR: 'it returns false'. Refute it at one input. -/
def serialAddWrong : ChangeSpec := { name := "serialAdd", fn := fun _ => fun
  | [d1, d2] => { results := [.lit (.bool false)], args := [d1, d2] }
  | _ => none }
def SerialAddWrongFalsely : Prop := serialAddRow.holds Try.pinned (OpenSpec.ofChange serialAddWrong)

/-- 'bolterlaw06.SerialSteps': WHATEVER THE INPUT: true; the input reads as it did. -/
def serialStepsSpec : ChangeSpec := { name := "serialSteps", fn := fun _ => fun
  | [d1, d2] => { results := [.lit (.bool true)], args := [d1, d2] }
  | _ => none }
def serialStepsRow : OpenClaim := { program := "ytbnmpopcnpjjdaa", sum := "383dc6a842dde7fe64055be2bb1b95f218f8fba005895a316e2b0b936c0607d0", func := "bolter/bolterlaw06.SerialSteps", spec := "serialSteps", apart := false }
def SerialStepsSaid : Prop := serialStepsRow.holds Try.pinned (OpenSpec.ofChange serialStepsSpec)

/-- ITS FALSE NEIGHBOUR: 'it returns false'. Refute it at one input. -/
def serialStepsWrong : ChangeSpec := { name := "serialSteps", fn := fun _ => fun
  | [d1, d2] => { results := [.lit (.bool false)], args := [d1, d2] }
  | _ => none }
def SerialStepsWrongFalsely : Prop := serialStepsRow.holds Try.pinned (OpenSpec.ofChange serialStepsWrong)

/-- 'bolterlaw06.SerialLast': WHATEVER THE INPUT: true; the input reads as it did. -/
def serialLastSpec : ChangeSpec := { name := "serialLast", fn := fun _ => fun
  | [d] => { results := [.lit (.bool true)], args := [d] }
  | _ => none }
def serialLastRow : OpenClaim := { program := "ytbnmpopcnpjjdaa", sum := "383dc6a842dde7fe64055be2bb1b95f218f8fba005895a316e2b0b936c0607d0", func := "bolter/bolterlaw06.SerialLast", spec := "serialLast", apart := false }
def SerialLastSaid : Prop := serialLastRow.holds Try.pinned (OpenSpec.ofChange serialLastSpec)

/-- ITS FALSE NEIGHBOUR: 'it returns false'. Refute it at one input. -/
def serialLastWrong : ChangeSpec := { name := "serialLast", fn := fun _ => fun
  | [d] => { results := [.lit (.bool false)], args := [d] }
  | _ => none }
def SerialLastWrongFalsely : Prop := serialLastRow.holds Try.pinned (OpenSpec.ofChange serialLastWrong)

/-- 'bolterlaw12.PrefixCut': WHATEVER THE INPUT: true; the input reads as it did. -/
def prefixCutSpec : ChangeSpec := { name := "prefixCut", fn := fun _ => fun
  | [d1, d2, d3, d4] => { results := [.lit (.bool true)], args := [d1, d2, d3, d4] }
  | _ => none }
def prefixCutRow : OpenClaim := { program := "ytbnmpopcnpjjdaa", sum := "383dc6a842dde7fe64055be2bb1b95f218f8fba005895a316e2b0b936c0607d0", func := "bolter/bolterlaw12.PrefixCut", spec := "prefixCut", inPlace := ["internal/abi.NoEscape"], apart := false }
def PrefixCutSaid : Prop := prefixCutRow.holds Try.pinned (OpenSpec.ofChange prefixCutSpec)

/-- ITS FALSE NEIGHBOUR: 'it returns false'. Refute it at one input. -/
def prefixCutWrong : ChangeSpec := { name := "prefixCut", fn := fun _ => fun
  | [d1, d2, d3, d4] => { results := [.lit (.bool false)], args := [d1, d2, d3, d4] }
  | _ => none }
def PrefixCutWrongFalsely : Prop := prefixCutRow.holds Try.pinned (OpenSpec.ofChange prefixCutWrong)

/-- 'bolterlaw12.PrefixHas': WHATEVER THE INPUT: true; the input reads as it did. -/
def prefixHasSpec : ChangeSpec := { name := "prefixHas", fn := fun _ => fun
  | [d1, d2, d3, d4, d5] => { results := [.lit (.bool true)], args := [d1, d2, d3, d4, d5] }
  | _ => none }
def prefixHasRow : OpenClaim := { program := "ytbnmpopcnpjjdaa", sum := "383dc6a842dde7fe64055be2bb1b95f218f8fba005895a316e2b0b936c0607d0", func := "bolter/bolterlaw12.PrefixHas", spec := "prefixHas", inPlace := ["internal/abi.NoEscape"], apart := false }
def PrefixHasSaid : Prop := prefixHasRow.holds Try.pinned (OpenSpec.ofChange prefixHasSpec)

/-- ITS FALSE NEIGHBOUR: 'it returns false'. Refute it at one input. -/
def prefixHasWrong : ChangeSpec := { name := "prefixHas", fn := fun _ => fun
  | [d1, d2, d3, d4, d5] => { results := [.lit (.bool false)], args := [d1, d2, d3, d4, d5] }
  | _ => none }
def PrefixHasWrongFalsely : Prop := prefixHasRow.holds Try.pinned (OpenSpec.ofChange prefixHasWrong)

/-- 'bolterlaw12.PrefixMay': WHATEVER THE INPUT: true; the input reads as it did. -/
def prefixMaySpec : ChangeSpec := { name := "prefixMay", fn := fun _ => fun
  | [d1, d2] => { results := [.lit (.bool true)], args := [d1, d2] }
  | _ => none }
def prefixMayRow : OpenClaim := { program := "ytbnmpopcnpjjdaa", sum := "383dc6a842dde7fe64055be2bb1b95f218f8fba005895a316e2b0b936c0607d0", func := "bolter/bolterlaw12.PrefixMay", spec := "prefixMay", inPlace := ["internal/abi.NoEscape"], apart := false }
def PrefixMaySaid : Prop := prefixMayRow.holds Try.pinned (OpenSpec.ofChange prefixMaySpec)

/-- ITS FALSE NEIGHBOUR: 'it returns false'. Refute it at one input. -/
def prefixMayWrong : ChangeSpec := { name := "prefixMay", fn := fun _ => fun
  | [d1, d2] => { results := [.lit (.bool false)], args := [d1, d2] }
  | _ => none }
def PrefixMayWrongFalsely : Prop := prefixMayRow.holds Try.pinned (OpenSpec.ofChange prefixMayWrong)

/-- 'bolterlaw12.PrefixCommon': WHATEVER THE INPUT: true; the input reads as it did. -/
def prefixCommonSpec : ChangeSpec := { name := "prefixCommon", fn := fun _ => fun
  | [d1, d2, d3, d4] => { results := [.lit (.bool true)], args := [d1, d2, d3, d4] }
  | _ => none }
def prefixCommonRow : OpenClaim := { program := "ytbnmpopcnpjjdaa", sum := "383dc6a842dde7fe64055be2bb1b95f218f8fba005895a316e2b0b936c0607d0", func := "bolter/bolterlaw12.PrefixCommon", spec := "prefixCommon", inPlace := ["internal/abi.NoEscape"], apart := false }
def PrefixCommonSaid : Prop := prefixCommonRow.holds Try.pinned (OpenSpec.ofChange prefixCommonSpec)

/-- ITS FALSE NEIGHBOUR: 'it returns false'. Refute it at one input. -/
def prefixCommonWrong : ChangeSpec := { name := "prefixCommon", fn := fun _ => fun
  | [d1, d2, d3, d4] => { results := [.lit (.bool false)], args := [d1, d2, d3, d4] }
  | _ => none }
def PrefixCommonWrongFalsely : Prop := prefixCommonRow.holds Try.pinned (OpenSpec.ofChange prefixCommonWrong)

/-- 'bolterlaw12.PrefixKey': WHATEVER THE INPUT: true; the input reads as it did. -/
def prefixKeySpec : ChangeSpec := { name := "prefixKey", fn := fun _ => fun
  | [d1, d2, d3] => { results := [.lit (.bool true)], args := [d1, d2, d3] }
  | _ => none }
def prefixKeyRow : OpenClaim := { program := "ytbnmpopcnpjjdaa", sum := "383dc6a842dde7fe64055be2bb1b95f218f8fba005895a316e2b0b936c0607d0", func := "bolter/bolterlaw12.PrefixKey", spec := "prefixKey", inPlace := ["internal/abi.NoEscape"], apart := false }
def PrefixKeySaid : Prop := prefixKeyRow.holds Try.pinned (OpenSpec.ofChange prefixKeySpec)

/-- ITS FALSE NEIGHBOUR: 'it returns false'. Refute it at one input. -/
def prefixKeyWrong : ChangeSpec := { name := "prefixKey", fn := fun _ => fun
  | [d1, d2, d3] => { results := [.lit (.bool false)], args := [d1, d2, d3] }
  | _ => none }
def PrefixKeyWrongFalsely : Prop := prefixKeyRow.holds Try.pinned (OpenSpec.ofChange prefixKeyWrong)

/-- 'bolterlaw12.PrefixBack': WHATEVER THE INPUT: true; the input reads as it did. -/
def prefixBackSpec : ChangeSpec := { name := "prefixBack", fn := fun _ => fun
  | [d1, d2] => { results := [.lit (.bool true)], args := [d1, d2] }
  | _ => none }
def prefixBackRow : OpenClaim := { program := "ytbnmpopcnpjjdaa", sum := "383dc6a842dde7fe64055be2bb1b95f218f8fba005895a316e2b0b936c0607d0", func := "bolter/bolterlaw12.PrefixBack", spec := "prefixBack", inPlace := ["internal/abi.NoEscape"], apart := false }
def PrefixBackSaid : Prop := prefixBackRow.holds Try.pinned (OpenSpec.ofChange prefixBackSpec)

/-- ITS FALSE NEIGHBOUR: 'it returns false'. Refute it at one input. -/
def prefixBackWrong : ChangeSpec := { name := "prefixBack", fn := fun _ => fun
  | [d1, d2] => { results := [.lit (.bool false)], args := [d1, d2] }
  | _ => none }
def PrefixBackWrongFalsely : Prop := prefixBackRow.holds Try.pinned (OpenSpec.ofChange prefixBackWrong)

/- THE SECOND FORM. 'bulk': how many values and letters a reading holds, each counted each time it is reached (what is shared counts as often as it is met; a slice's spare places count too). A statement '..UptoSaid' is the law's where the arguments, and the package variables that the reading takes, are together of bulk at most 1048576: NARROWER than '..Said'. Prove '..Said' where nothing that the law and all that it calls make is longer than what came in: it says more and counts as full. Else prove '..UptoSaid'. A law counts once. -/
mutual
def uptoBulk {H : Type} : DataW H → Nat
  | .lit (.string bytes) => bytes.length + 1
  | .lit _ => 1
  | .nil => 1
  | .ptr d => uptoBulk d + 1
  | .slice elems spare => uptoBulkAll elems + uptoBulkAll spare + 1
  | .agg parts => uptoBulkAll parts + 1
  | .iface _ d => uptoBulk d + 1
  | .map entries => uptoBulkEntries entries + 1
  | .held _ => 1
def uptoBulkAll {H : Type} : List (DataW H) → Nat
  | [] => 0
  | d :: r => uptoBulk d + uptoBulkAll r
def uptoBulkEntries {H : Type} : List (Lit × DataW H) → Nat
  | [] => 0
  | x :: r => uptoBulkEntry x + uptoBulkEntries r
def uptoBulkEntry {H : Type} : Lit × DataW H → Nat
  | (.string bytes, d) => bytes.length + uptoBulk d + 1
  | (_, d) => uptoBulk d + 1
 end
def uptoSmall : (H : Type) → List (DataW H) → Bool := fun _ ds => decide (uptoBulkAll ds ≤ 1048576)
def OpenSpec.upto (s : _root_.Go.ChangeSpec) : _root_.Go.OpenSpec := { _root_.Go.OpenSpec.ofChange s with cond := some uptoSmall }

/-- 'bolterlaw06.SerialLater', WHERE WHAT IT READS IS OF BULK AT MOST 1048576: true; the input reads as it did. -/
def serialLaterUptoRow : OpenClaim := { program := "ytbnmpopcnpjjdaa", sum := "383dc6a842dde7fe64055be2bb1b95f218f8fba005895a316e2b0b936c0607d0", func := "bolter/bolterlaw06.SerialLater", spec := "serialLater", apart := false, narrowed := true }
def SerialLaterUptoSaid : Prop := serialLaterUptoRow.holds Try.pinned (OpenSpec.upto serialLaterSpec)

/-- 'bolterlaw06.SerialTurn', WHERE WHAT IT READS IS OF BULK AT MOST 1048576: true; the input reads as it did. -/
def serialTurnUptoRow : OpenClaim := { program := "ytbnmpopcnpjjdaa", sum := "383dc6a842dde7fe64055be2bb1b95f218f8fba005895a316e2b0b936c0607d0", func := "bolter/bolterlaw06.SerialTurn", spec := "serialTurn", apart := false, narrowed := true }
def SerialTurnUptoSaid : Prop := serialTurnUptoRow.holds Try.pinned (OpenSpec.upto serialTurnSpec)

/-- 'bolterlaw06.SerialAdd', WHERE WHAT IT READS IS OF BULK AT MOST 1048576: true; the input reads as it did. -/
def serialAddUptoRow : OpenClaim := { program := "ytbnmpopcnpjjdaa", sum := "383dc6a842dde7fe64055be2bb1b95f218f8fba005895a316e2b0b936c0607d0", func := "bolter/bolterlaw06.SerialAdd", spec := "serialAdd", apart := false, narrowed := true }
def SerialAddUptoSaid : Prop := serialAddUptoRow.holds Try.pinned (OpenSpec.upto serialAddSpec)

/-- 'bolterlaw06.SerialSteps', WHERE WHAT IT READS IS OF BULK AT MOST 1048576: true; the input reads as it did. -/
def serialStepsUptoRow : OpenClaim := { program := "ytbnmpopcnpjjdaa", sum := "383dc6a842dde7fe64055be2bb1b95f218f8fba005895a316e2b0b936c0607d0", func := "bolter/bolterlaw06.SerialSteps", spec := "serialSteps", apart := false, narrowed := true }
def SerialStepsUptoSaid : Prop := serialStepsUptoRow.holds Try.pinned (OpenSpec.upto serialStepsSpec)

/-- 'bolterlaw06.SerialLast', WHERE WHAT IT READS IS OF BULK AT MOST 1048576: true; the input reads as it did. -/
def serialLastUptoRow : OpenClaim := { program := "ytbnmpopcnpjjdaa", sum := "383dc6a842dde7fe64055be2bb1b95f218f8fba005895a316e2b0b936c0607d0", func := "bolter/bolterlaw06.SerialLast", spec := "serialLast", apart := false, narrowed := true }
def SerialLastUptoSaid : Prop := serialLastUptoRow.holds Try.pinned (OpenSpec.upto serialLastSpec)

/-- 'bolterlaw12.PrefixCut', WHERE WHAT IT READS IS OF BULK AT MOST 1048576: true; the input reads as it did. -/
def prefixCutUptoRow : OpenClaim := { program := "ytbnmpopcnpjjdaa", sum := "383dc6a842dde7fe64055be2bb1b95f218f8fba005895a316e2b0b936c0607d0", func := "bolter/bolterlaw12.PrefixCut", spec := "prefixCut", inPlace := ["internal/abi.NoEscape"], apart := false, narrowed := true }
def PrefixCutUptoSaid : Prop := prefixCutUptoRow.holds Try.pinned (OpenSpec.upto prefixCutSpec)

/-- 'bolterlaw12.PrefixHas', WHERE WHAT IT READS IS OF BULK AT MOST 1048576: true; the input reads as it did. -/
def prefixHasUptoRow : OpenClaim := { program := "ytbnmpopcnpjjdaa", sum := "383dc6a842dde7fe64055be2bb1b95f218f8fba005895a316e2b0b936c0607d0", func := "bolter/bolterlaw12.PrefixHas", spec := "prefixHas", inPlace := ["internal/abi.NoEscape"], apart := false, narrowed := true }
def PrefixHasUptoSaid : Prop := prefixHasUptoRow.holds Try.pinned (OpenSpec.upto prefixHasSpec)

/-- 'bolterlaw12.PrefixMay', WHERE WHAT IT READS IS OF BULK AT MOST 1048576: true; the input reads as it did. -/
def prefixMayUptoRow : OpenClaim := { program := "ytbnmpopcnpjjdaa", sum := "383dc6a842dde7fe64055be2bb1b95f218f8fba005895a316e2b0b936c0607d0", func := "bolter/bolterlaw12.PrefixMay", spec := "prefixMay", inPlace := ["internal/abi.NoEscape"], apart := false, narrowed := true }
def PrefixMayUptoSaid : Prop := prefixMayUptoRow.holds Try.pinned (OpenSpec.upto prefixMaySpec)

/-- 'bolterlaw12.PrefixCommon', WHERE WHAT IT READS IS OF BULK AT MOST 1048576: true; the input reads as it did. -/
def prefixCommonUptoRow : OpenClaim := { program := "ytbnmpopcnpjjdaa", sum := "383dc6a842dde7fe64055be2bb1b95f218f8fba005895a316e2b0b936c0607d0", func := "bolter/bolterlaw12.PrefixCommon", spec := "prefixCommon", inPlace := ["internal/abi.NoEscape"], apart := false, narrowed := true }
def PrefixCommonUptoSaid : Prop := prefixCommonUptoRow.holds Try.pinned (OpenSpec.upto prefixCommonSpec)

/-- 'bolterlaw12.PrefixKey', WHERE WHAT IT READS IS OF BULK AT MOST 1048576: true; the input reads as it did. -/
def prefixKeyUptoRow : OpenClaim := { program := "ytbnmpopcnpjjdaa", sum := "383dc6a842dde7fe64055be2bb1b95f218f8fba005895a316e2b0b936c0607d0", func := "bolter/bolterlaw12.PrefixKey", spec := "prefixKey", inPlace := ["internal/abi.NoEscape"], apart := false, narrowed := true }
def PrefixKeyUptoSaid : Prop := prefixKeyUptoRow.holds Try.pinned (OpenSpec.upto prefixKeySpec)

/-- 'bolterlaw12.PrefixBack', WHERE WHAT IT READS IS OF BULK AT MOST 1048576: true; the input reads as it did. -/
def prefixBackUptoRow : OpenClaim := { program := "ytbnmpopcnpjjdaa", sum := "383dc6a842dde7fe64055be2bb1b95f218f8fba005895a316e2b0b936c0607d0", func := "bolter/bolterlaw12.PrefixBack", spec := "prefixBack", inPlace := ["internal/abi.NoEscape"], apart := false, narrowed := true }
def PrefixBackUptoSaid : Prop := prefixBackUptoRow.holds Try.pinned (OpenSpec.upto prefixBackSpec)

end Rows
end Go.Proofs.Ytbnmpopcnpjjdaa
