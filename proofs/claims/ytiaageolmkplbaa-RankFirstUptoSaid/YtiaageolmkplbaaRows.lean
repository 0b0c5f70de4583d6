/-
  No cell of these rows narrows 'for every input' (looked for: loops, veiled, ifaces, maps, wideKeys, modest, calm, conditions, laid).
  DERIVED. THE GIVEN ROWS OF THIS SEAT. 4 by the template 'for every input the law returns true; each argument reads behind the call as it read before'; 0 by the template 'total and deterministic' (their statements: YtiaageolmkplbaaTotals.lean).
  GIVEN WITH THE SEED: the statements are not yours to turn. If you find one false, say at which input.
  Laid BY PROGRAM, IN A SANDBOX (cutbox-rows.mjs): the forced cells as the released guide's own fill.sh prints them over the translation 5a628acacfa4270a… (all of the seat's roots in one cut). By AI agents, Wed Nov 11 2026. No macro, syntax, notation, axiom, sorry.
-/
import Derived.Test.YtiaageolmkplbaaChecked
import GoSem.Claim
import GoSem.ClaimJoined
import GoSem.ClaimMapViews
import Derived.JoinedTies
import Derived.KernelRfl
namespace Go.Proofs.Ytiaageolmkplbaa
/- THE CELL 'sum', in the pinned program and in every row, IS THE sha256 OF THE DUMP (.gsa) THAT YtiaageolmkplbaaProg.lean LOADS. Nothing in Lean hashes anything: it is a label: what it is worth is what the hold of that sum in a sandbox is worth. -/
noncomputable def Try.pinned : Pinned := { name := "ytiaageolmkplbaa", sum := "5a628acacfa4270ae850ffdaf7911ee72bb7e96d05e4511d09a0730b3fca126a", checked := Try.checked }
namespace Rows
def none {H : Type} : Left H := { results := [], args := [] }

/-- 'bolterlaw18.RankOther': WHATEVER THE INPUT: true; the input reads as it did. -/
def rankOtherSpec : ChangeSpec := { name := "rankOther", fn := fun _ => fun
  | [d1, d2, d3] => { results := [.lit (.bool true)], args := [d1, d2, d3] }
  | _ => none }
def rankOtherRow : OpenClaim := { program := "ytiaageolmkplbaa", sum := "5a628acacfa4270ae850ffdaf7911ee72bb7e96d05e4511d09a0730b3fca126a", func := "bolter/bolterlaw18.RankOther", spec := "rankOther", inPlace := ["internal/abi.NoEscape"], apart := false }
def RankOtherSaid : Prop := rankOtherRow.holds Try.pinned (OpenSpec.ofChange rankOtherSpec)

/-- ITS FALSE NEIGHBOUR: 'it returns false'. Refute it at one input. -/
def rankOtherWrong : ChangeSpec := { name := "rankOther", fn := fun _ => fun
  | [d1, d2, d3] => { results := [.lit (.bool false)], args := [d1, d2, d3] }
  | _ => none }
def RankOtherWrongFalsely : Prop := rankOtherRow.holds Try.pinned (OpenSpec.ofChange rankOtherWrong)

/-- 'bolterlaw18.RankOf': WHATEVER THE INPUT: true; the input reads as it did. -/
def rankOfSpec : ChangeSpec := { name := "rankOf", fn := fun _ => fun
  | [d1, d2, d3, d4, d5] => { results := [.lit (.bool true)], args := [d1, d2, d3, d4, d5] }
  | _ => none }
def rankOfRow : OpenClaim := { program := "ytiaageolmkplbaa", sum := "5a628acacfa4270ae850ffdaf7911ee72bb7e96d05e4511d09a0730b3fca126a", func := "bolter/bolterlaw18.RankOf", spec := "rankOf", inPlace := ["internal/abi.NoEscape"], apart := false }
def RankOfSaid : Prop := rankOfRow.holds Try.pinned (OpenSpec.ofChange rankOfSpec)

/-- ITS FALSE NEIGHBOUR: 'it returns false'. Refute it at one input. -/
def rankOfWrong : ChangeSpec := { name := "rankOf", fn := fun _ => fun
  | [d1, d2, d3, d4, d5] => { results := [.lit (.bool false)], args := [d1, d2, d3, d4, d5] }
  | _ => none }
def RankOfWrongFalsely : Prop := rankOfRow.holds Try.pinned (OpenSpec.ofChange rankOfWrong)

/-- 'bolterlaw18.RankFirst': WHATEVER THE INPUT: true; the input reads as it did. -/
def rankFirstSpec : ChangeSpec := { name := "rankFirst", fn := fun _ => fun
  | [d] => { results := [.lit (.bool true)], args := [d] }
  | _ => none }
def rankFirstRow : OpenClaim := { program := "ytiaageolmkplbaa", sum := "5a628acacfa4270ae850ffdaf7911ee72bb7e96d05e4511d09a0730b3fca126a", func := "bolter/bolterlaw18.RankFirst", spec := "rankFirst", inPlace := ["internal/abi.NoEscape"], apart := false }
def RankFirstSaid : Prop := rankFirstRow.holds Try.pinned (OpenSpec.ofChange rankFirstSpec)

/-- ITS FALSE NEIGHBOUR: 'it returns false'. Refute it at one input. -/
def rankFirstWrong : ChangeSpec := { name := "rankFirst", fn := fun _ => fun
  | [d] => { results := [.lit (.bool false)], args := [d] }
  | _ => none }
def RankFirstWrongFalsely : Prop := rankFirstRow.holds Try.pinned (OpenSpec.ofChange rankFirstWrong)

/-- 'bolterlaw18.RankBetter': WHATEVER THE INPUT: true; the input reads as it did. -/
def rankBetterSpec : ChangeSpec := { name := "rankBetter", fn := fun _ => fun
  | [d1, d2, d3, d4] => { results := [.lit (.bool true)], args := [d1, d2, d3, d4] }
  | _ => none }
def rankBetterRow : OpenClaim := { program := "ytiaageolmkplbaa", sum := "5a628acacfa4270ae850ffdaf7911ee72bb7e96d05e4511d09a0730b3fca126a", func := "bolter/bolterlaw18.RankBetter", spec := "rankBetter", inPlace := ["internal/abi.NoEscape"], apart := false }
def RankBetterSaid : Prop := rankBetterRow.holds Try.pinned (OpenSpec.ofChange rankBetterSpec)

/-- ITS FALSE NEIGHBOUR: 'it returns false'. Refute it at one input. -/
def rankBetterWrong : ChangeSpec := { name := "rankBetter", fn := fun _ => fun
  | [d1, d2, d3, d4] => { results := [.lit (.bool false)], args := [d1, d2, d3, d4] }
  | _ => none }
def RankBetterWrongFalsely : Prop := rankBetterRow.holds Try.pinned (OpenSpec.ofChange rankBetterWrong)

/- THE SECOND FORM. 'bulk': how many values and letters a reading holds, each counted each time it is reached (what is shared counts as often as it is met; a slice's spare places count too). A statement '..UptoSaid' is the law's where the arguments, and the package variables that the reading takes, are together of bulk at most 1048576: NARROWER than '..Said'. Prove '..Said' where nothing that the law and all that it calls make is longer than what came in: it says more and counts as full. Else prove '..UptoSaid'. A law counts once. -/
mutual
def uptoBulk {H : Type} : DataW H → Nat
  | .lit (.string bytes) => bytes.length + 1
  | .lit _ => 1
  | .nil => 1
  | .ptr d => uptoBulk d + 1
  | .slice elems spare => uptoBulkAll elems + uptoBulkAll spare + 1
  | .agg parts => uptoBulkAll parts + 1
  | .iface _ d => uptoBulk d + 1
  | .map entries => uptoBulkEntries entries + 1
  | .held _ => 1
def uptoBulkAll {H : Type} : List (DataW H) → Nat
  | [] => 0
  | d :: r => uptoBulk d + uptoBulkAll r
def uptoBulkEntries {H : Type} : List (Lit × DataW H) → Nat
  | [] => 0
  | x :: r => uptoBulkEntry x + uptoBulkEntries r
def uptoBulkEntry {H : Type} : Lit × DataW H → Nat
  | (.string bytes, d) => bytes.length + uptoBulk d + 1
  | (_, d) => uptoBulk d + 1
 end
def uptoSmall : (H : Type) → List (DataW H) → Bool := fun _ ds => decide (uptoBulkAll ds ≤ 1048576)
def OpenSpec.upto (s : _root_.Go.ChangeSpec) : _root_.Go.OpenSpec := { _root_.Go.OpenSpec.ofChange s with cond := some uptoSmall }

/-- 'bolterlaw18.RankOther', WHERE WHAT IT READS IS OF BULK AT MOST 1048576: true; the input reads as it did. -/
def rankOtherUptoRow : OpenClaim := { program := "ytiaageolmkplbaa", sum := "5a628acacfa4270ae850ffdaf7911ee72bb7e96d05e4511d09a0730b3fca126a", func := "bolter/bolterlaw18.RankOther", spec := "rankOther", inPlace := ["internal/abi.NoEscape"], apart := false, narrowed := true }
def RankOtherUptoSaid : Prop := rankOtherUptoRow.holds Try.pinned (OpenSpec.upto rankOtherSpec)

/-- 'bolterlaw18.RankOf', WHERE WHAT IT READS IS OF BULK AT MOST 1048576: true; the input reads as it did. -/
def rankOfUptoRow : OpenClaim := { program := "ytiaageolmkplbaa", sum := "5a628acacfa4270ae850ffdaf7911ee72bb7e96d05e4511d09a0730b3fca126a", func := "bolter/bolterlaw18.RankOf", spec := "rankOf", inPlace := ["internal/abi.NoEscape"], apart := false, narrowed := true }
def RankOfUptoSaid : Prop := rankOfUptoRow.holds Try.pinned (OpenSpec.upto rankOfSpec)

/-- 'bolterlaw18.RankFirst', WHERE WHAT IT READS IS OF BULK AT MOST 1048576: true; the input reads as it did. -/
def rankFirstUptoRow : OpenClaim := { program := "ytiaageolmkplbaa", sum := "5a628acacfa4270ae850ffdaf7911ee72bb7e96d05e4511d09a0730b3fca126a", func := "bolter/bolterlaw18.RankFirst", spec := "rankFirst", inPlace := ["internal/abi.NoEscape"], apart := false, narrowed := true }
def RankFirstUptoSaid : Prop := rankFirstUptoRow.holds Try.pinned (OpenSpec.upto rankFirstSpec)

/-- 'bolterlaw18.RankBetter', WHERE WHAT IT READS IS OF BULK AT MOST 1048576: true; the input reads as it did. -/
def rankBetterUptoRow : OpenClaim := { program := "ytiaageolmkplbaa", sum := "5a628acacfa4270ae850ffdaf7911ee72bb7e96d05e4511d09a0730b3fca126a", func := "bolter/bolterlaw18.RankBetter", spec := "rankBetter", inPlace := ["internal/abi.NoEscape"], apart := false, narrowed := true }
def RankBetterUptoSaid : Prop := rankBetterUptoRow.holds Try.pinned (OpenSpec.upto rankBetterSpec)

end Rows
end Go.Proofs.Ytiaageolmkplbaa
