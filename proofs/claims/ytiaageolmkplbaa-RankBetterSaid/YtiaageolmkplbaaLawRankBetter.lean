/- Zones go ahead by their number, then triggers by their step, then by how long they are: for every two triggers made by numbers. -/
import Derived.Test.YtiaageolmkplbaaRows
import Derived.Test.YtiaageolmkplbaaRnkG
import Derived.Test.YtiaageolmkplbaaPureRank
import Derived.Test.YtiaageolmkplbaaOpenR
import Derived.WalkKit
import Derived.ProofKit
import Derived.OpenShut
import Derived.ShutString
import Derived.ChangeOld
import Derived.Below
import Derived.SizedLaws
import Derived.Carry
namespace Go.Proofs.Ytiaageolmkplbaa.rankBetter
open Go.ChangeShapes Go.WideShapes Go.ChangeAt Go.RowKit
open Go.ChangeMaps (open_string shut_string)
set_option linter.unusedVariables false
theorem own : ownKnob Try.prog.godebug = none := by kernel_rfl
theorem laidOut : laidOutB Try.prog = true := by kernel_rfl
set_option maxRecDepth 100000 in
theorem lifted (os : Os) (started : os.Started) (H : Type) (enc : TypeId × Value → H) :
    ReturnsInHanded {} Try.checked os 6 .any (Rows.rankBetterSpec.pre6 enc Try.prog Try.f6 Rows.rankBetterRow.domain false) (Rows.rankBetterSpec.post enc Try.prog Try.f6 false true false false) := by
  refine returnsInHanded_of_change_sized (C := Try.checked) own started (by kernel_rfl) Try.func6
    (ChangeSpec.witness6 (enc := enc) (C := Try.checked) false ⟨#[], #[.int .u8 0, .agg #[.int .u8 0, .slice none 0 0, .bool false, .int .u8 0], .int .u8 0, .agg #[.int .u8 0, .slice none 0 0, .bool false, .int .u8 0]], []⟩ 8 (by kernel_rfl) (by kernel_rfl) (by kernel_rfl) (by kernel_rfl)) ?_
  intro W base args ds gs before hval0 hW hcnd hsz0 _
  have hsz : (DataW.weightsEach Try.prog (Try.f6.params.toList ++ Rows.rankBetterSpec.plain.varTypes Try.prog) (ds ++ gs)).all (· ≤ reachBytes) = true := hsz0
  have hval : ∀ (j : Nat) t v, Try.f6.params[j]? = some t → args[j]? = some v → Value.okWide Try.prog W .any base t v := hval0
  have hW' := hW
  obtain ⟨p, q, hA0, hV, rfl, hfz, hnd⟩ := hW
  have hA : DataW.TrodAll enc Try.prog W 0 (fun _ => true) true Try.f6.params.toList args.toList ds p := hA0
  rw [Try.params6] at hA hval hsz
  obtain ⟨v0, vs0, d0, ds0, p0, q0, hargs, rfl, rfl, h0, r0⟩ := trodAll_cons hA
  obtain ⟨v1, vs1, d1, ds1, p1, q1, rfl, rfl, rfl, h1, r1⟩ := trodAll_cons r0
  obtain ⟨v2, vs2, d2, ds2, p2, q2, rfl, rfl, rfl, h2, r2⟩ := trodAll_cons r1
  obtain ⟨v3, vs3, d3, ds3, p3, q3, rfl, rfl, rfl, h3, r3⟩ := trodAll_cons r2
  obtain ⟨rfl, rfl, rfl⟩ := trodAll_nil r3
  obtain rfl : args = #[v0, v1, v2, v3] := by cases args; simp_all
  obtain ⟨rfl, rfl⟩ := trodVars_none hV
  have k0 := h0
  have lt0 : ∀ x ∈ p0, x.block < W.heap.size := by obtain ⟨m, hm⟩ := k0; exact DataW.trod_lt m _ _ _ hm
  have k1 := h1
  have lt1 : ∀ x ∈ p1, x.block < W.heap.size := by obtain ⟨m, hm⟩ := k1; exact DataW.trod_lt m _ _ _ hm
  have k2 := h2
  have lt2 : ∀ x ∈ p2, x.block < W.heap.size := by obtain ⟨m, hm⟩ := k2; exact DataW.trod_lt m _ _ _ hm
  have k3 := h3
  have lt3 : ∀ x ∈ p3, x.block < W.heap.size := by obtain ⟨m, hm⟩ := k3; exact DataW.trod_lt m _ _ _ hm
  obtain ⟨a0, rfl, rfl, rfl, w0⟩ := open_int Try.underlying5 (hval 0 5 v0 rfl rfl) h0
  obtain ⟨c1, C1⟩ := OpenK.code_arg hsz (j := 1) rfl rfl (hval 1 45 v1 rfl rfl) h1
  obtain ⟨A1_0, c1_0, rfl, R1_0, L1_0⟩ := C1.val
  obtain ⟨a2, rfl, rfl, rfl, w2⟩ := open_int Try.underlying5 (hval 2 5 v2 rfl rfl) h2
  obtain ⟨c3, C3⟩ := OpenK.code_arg hsz (j := 3) rfl rfl (hval 3 45 v3 rfl rfl) h3
  obtain ⟨A3_0, c3_0, rfl, R3_0, L3_0⟩ := C3.val
  clear hA0 hval0 hsz0 hsz
  obtain ⟨k, na, aa, pa, ca, La, e1, e2, e3, e4⟩ := Pure.RankOf c1.1 c1.2.1 c1.2.2.1 c1.2.2.2 C1.is.1 C1.is.2.1.1 C1.is.2.1.2 C1.is.2.2.2
  obtain ⟨q, nb, ab, pb, cb, Lb, f1, f2, f3, f4⟩ := Pure.RankOf c3.1 c3.2.1 c3.2.2.1 c3.2.2.2 C3.is.1 C3.is.2.1.1 C3.is.2.1.2 C3.is.2.2.2
  have e := e1 (k + q) (Nat.le_add_right _ _)
  have f := f1 (k + q) (Nat.le_add_left _ _)
  refine (Hand.rankBetter_any (k + q) a0 a2 c1.1 A1_0 c1_0 c1.2.1 c1.2.2.1 c1.2.2.2 na aa pa ca La c3.1 A3_0 c3_0 c3.2.1 c3.2.2.1 c3.2.2.2 nb ab pb cb Lb W R1_0 L1_0 R3_0 L3_0 (NamL.u8b w0).1 (NamL.u8b w0).2 (NamL.u8b w2).1 (NamL.u8b w2).2 (NamL.u8b C1.is.1).1 (NamL.u8b C1.is.1).2 (NamL.u8b C3.is.1).1 (NamL.u8b C3.is.1).2 (Pure.code_at e.1) e.2.1 e.2.2 e2 e3 e4 (Pure.code_at f.1) f.2.1 f.2.2 f2 f3 f4).mono fun e W' ⟨he, bel⟩ => ?_
  subst he
  exact ⟨_, rfl, _, _, _, [], _, [], hW', trodAll_mk1 (shut_bool Try.underlying4 _), (trodAll_cons_mk (Below.trod laidOut (by kernel_rfl) (of_decide_eq_true (by kernel_rfl)) k0 bel lt0) (trodAll_cons_mk (Below.trod laidOut (by kernel_rfl) (of_decide_eq_true (by kernel_rfl)) k1 bel lt1) (trodAll_cons_mk (Below.trod laidOut (by kernel_rfl) (of_decide_eq_true (by kernel_rfl)) k2 bel lt2) (trodAll_cons_mk (Below.trod laidOut (by kernel_rfl) (of_decide_eq_true (by kernel_rfl)) k3 bel lt3) trodAll_mk0)))), rfl, bel.frame _, fun h => by cases h⟩
theorem over : Rows.rankBetterRow.holds Try.pinned (OpenSpec.ofChange Rows.rankBetterSpec) :=
  OpenClaim.holds_of_wide 6 Try.f6 rfl rfl rfl rfl rfl rfl rfl ⟨rfl, rfl, rfl, rfl, rfl⟩ rfl rfl rfl rfl rfl (by kernel_rfl) Try.func6 (by kernel_rfl)
    (of_decide_eq_true (by kernel_rfl)) (by unfold Func.isWrapper; first | (rw [if_pos (by decide +kernel)]; kernel_rfl) | (rw [if_neg (by decide +kernel)]; exact ⟨rfl, rfl⟩))
    (fun os started H enc _ => lifted os started H enc)
theorem proved : Rows.RankBetterSaid := over
#print axioms proved
end Go.Proofs.Ytiaageolmkplbaa.rankBetter
namespace Go.Proofs.Ytiaageolmkplbaa
/-- The row, under a short name, for the claim. -/
theorem rankBetter_holds : Rows.RankBetterSaid := rankBetter.proved
end Go.Proofs.Ytiaageolmkplbaa
