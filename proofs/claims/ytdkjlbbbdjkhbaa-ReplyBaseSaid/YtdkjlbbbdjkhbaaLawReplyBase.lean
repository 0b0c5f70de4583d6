/- A reply without records, and one that has what upstream answered, are what the document says: for every query, code and answer. -/
import Derived.Test.YtdkjlbbbdjkhbaaRows
import Derived.Test.YtdkjlbbbdjkhbaaPAllx29
import Derived.Test.YtdkjlbbbdjkhbaaPureReplyBase
import Derived.Test.YtdkjlbbbdjkhbaaOpenM
import Derived.WalkKit
import Derived.ProofKit
import Derived.OpenShut
import Derived.ShutString
import Derived.ChangeOld
import Derived.Below
import Derived.SizedLaws
import Derived.Carry
namespace Go.Proofs.Ytdkjlbbbdjkhbaa.replyBase
open Go.ChangeShapes Go.WideShapes Go.ChangeAt Go.RowKit
open Go.ChangeMaps (open_string shut_string)
set_option linter.unusedVariables false
theorem own : ownKnob Try.prog.godebug = none := by kernel_rfl
theorem laidOut : laidOutB Try.prog = true := by kernel_rfl
set_option maxRecDepth 100000 in
theorem lifted (os : Os) (started : os.Started) (H : Type) (enc : TypeId × Value → H) :
    ReturnsInHanded {} Try.checked os 8 .any (Rows.replyBaseSpec.pre6 enc Try.prog Try.f8 Rows.replyBaseRow.domain false) (Rows.replyBaseSpec.post enc Try.prog Try.f8 false true false false) := by
  refine returnsInHanded_of_change_sized (C := Try.checked) own started (by kernel_rfl) Try.func8
    (ChangeSpec.witness6 (enc := enc) (C := Try.checked) false ⟨#[], #[.agg #[.int .u16 0, .bool false, .int .i64 0, .bool false, .bool false, .bool false, .bool false, .int .i64 0, .string ByteArray.empty, .int .u16 0, .slice none 0 0, .slice none 0 0, .slice none 0 0, .int .i64 0], .int .i64 0, .agg #[.int .u16 0, .bool false, .int .i64 0, .bool false, .bool false, .bool false, .bool false, .int .i64 0, .string ByteArray.empty, .int .u16 0, .slice none 0 0, .slice none 0 0, .slice none 0 0, .int .i64 0]], []⟩ 8 (by kernel_rfl) (by kernel_rfl) (by kernel_rfl) (by kernel_rfl)) ?_
  intro W base args ds gs before hval0 hW hcnd hsz0 _
  have hsz : (DataW.weightsEach Try.prog (Try.f8.params.toList ++ Rows.replyBaseSpec.plain.varTypes Try.prog) (ds ++ gs)).all (· ≤ reachBytes) = true := hsz0
  have hval : ∀ (j : Nat) t v, Try.f8.params[j]? = some t → args[j]? = some v → Value.okWide Try.prog W .any base t v := hval0
  have hW' := hW
  obtain ⟨p, q, hA0, hV, rfl, hfz, hnd⟩ := hW
  have hA : DataW.TrodAll enc Try.prog W 0 (fun _ => true) true Try.f8.params.toList args.toList ds p := hA0
  rw [Try.params8] at hA hval hsz
  obtain ⟨v0, vs0, d0, ds0, p0, q0, hargs, rfl, rfl, h0, r0⟩ := trodAll_cons hA
  obtain ⟨v1, vs1, d1, ds1, p1, q1, rfl, rfl, rfl, h1, r1⟩ := trodAll_cons r0
  obtain ⟨v2, vs2, d2, ds2, p2, q2, rfl, rfl, rfl, h2, r2⟩ := trodAll_cons r1
  obtain ⟨rfl, rfl, rfl⟩ := trodAll_nil r2
  obtain rfl : args = #[v0, v1, v2] := by cases args; simp_all
  obtain ⟨rfl, rfl⟩ := trodVars_none hV
  have k0 := h0
  have lt0 : ∀ x ∈ p0, x.block < W.heap.size := by obtain ⟨m, hm⟩ := k0; exact DataW.trod_lt m _ _ _ hm
  have k1 := h1
  have lt1 : ∀ x ∈ p1, x.block < W.heap.size := by obtain ⟨m, hm⟩ := k1; exact DataW.trod_lt m _ _ _ hm
  have k2 := h2
  have lt2 : ∀ x ∈ p2, x.block < W.heap.size := by obtain ⟨m, hm⟩ := k2; exact DataW.trod_lt m _ _ _ hm
  obtain ⟨m0, M0⟩ := OpenK.msg_arg hsz (j := 0) rfl rfl (hval 0 58 v0 rfl rfl) h0
  obtain ⟨A0_0, c0_0, A0_1, c0_1, A0_2, c0_2, rfl, R0_0, L0_0, R0_1, L0_1, R0_2, L0_2⟩ := M0.val
  obtain ⟨a1, rfl, rfl, rfl, w1⟩ := open_int Try.underlying3 (hval 1 3 v1 rfl rfl) h1
  obtain ⟨m2, M2⟩ := OpenK.msg_arg hsz (j := 2) rfl rfl (hval 2 58 v2 rfl rfl) h2
  obtain ⟨A2_0, c2_0, A2_1, c2_1, A2_2, c2_2, rfl, R2_0, L2_0, R2_1, L2_1, R2_2, L2_2⟩ := M2.val
  clear hA0 hval0 hsz0 hsz
  obtain ⟨k, hk⟩ := Pure.ReplyBase m0.1.1 m0.1.2.1 m0.1.2.2.1 m0.1.2.2.2.1 m0.1.2.2.2.2.1 m0.1.2.2.2.2.2.1 m0.1.2.2.2.2.2.2.1 m0.1.2.2.2.2.2.2.2 m0.2.1.1 m0.2.1.2 m0.2.2.1 m0.2.2.2.1 m0.2.2.2.2.1 m0.2.2.2.2.2 a1 m2.1.1 m2.1.2.1 m2.1.2.2.1 m2.1.2.2.2.1 m2.1.2.2.2.2.1 m2.1.2.2.2.2.2.1 m2.1.2.2.2.2.2.2.1 m2.1.2.2.2.2.2.2.2 m2.2.1.1 m2.2.1.2 m2.2.2.1 m2.2.2.2.1 m2.2.2.2.2.1 m2.2.2.2.2.2 M2.r0.1 M2.r1.1 M2.r2.1
  refine (PAll.bolterlaw21_ReplyBase.calls k m0.1.1 m0.1.2.1 m0.1.2.2.1 m0.1.2.2.2.1 m0.1.2.2.2.2.1 m0.1.2.2.2.2.2.1 m0.1.2.2.2.2.2.2.1 m0.1.2.2.2.2.2.2.2 m0.2.1.1 m0.2.1.2 A0_0 c0_0 m0.2.2.1 A0_1 c0_1 m0.2.2.2.1 A0_2 c0_2 m0.2.2.2.2.1 m0.2.2.2.2.2 a1 m2.1.1 m2.1.2.1 m2.1.2.2.1 m2.1.2.2.2.1 m2.1.2.2.2.2.1 m2.1.2.2.2.2.2.1 m2.1.2.2.2.2.2.2.1 m2.1.2.2.2.2.2.2.2 m2.2.1.1 m2.2.1.2 A2_0 c2_0 m2.2.2.1 A2_1 c2_1 m2.2.2.2.1 A2_2 c2_2 m2.2.2.2.2.1 m2.2.2.2.2.2 true W R0_0 L0_0 R0_1 L0_1 R0_2 L0_2 R2_0 L2_0 R2_1 L2_1 R2_2 L2_2 hk rfl).mono fun e W' ⟨he, bel⟩ => ?_
  subst he
  exact ⟨_, rfl, _, _, _, [], _, [], hW', trodAll_mk1 (shut_bool Try.underlying4 _), (trodAll_cons_mk (Below.trod laidOut (by kernel_rfl) (of_decide_eq_true (by kernel_rfl)) k0 bel lt0) (trodAll_cons_mk (Below.trod laidOut (by kernel_rfl) (of_decide_eq_true (by kernel_rfl)) k1 bel lt1) (trodAll_cons_mk (Below.trod laidOut (by kernel_rfl) (of_decide_eq_true (by kernel_rfl)) k2 bel lt2) trodAll_mk0))), rfl, bel.frame _, fun h => by cases h⟩
theorem over : Rows.replyBaseRow.holds Try.pinned (OpenSpec.ofChange Rows.replyBaseSpec) :=
  OpenClaim.holds_of_wide 8 Try.f8 rfl rfl rfl rfl rfl rfl rfl ⟨rfl, rfl, rfl, rfl, rfl⟩ rfl rfl rfl rfl rfl (by kernel_rfl) Try.func8 (by kernel_rfl)
    (of_decide_eq_true (by kernel_rfl)) (by unfold Func.isWrapper; first | (rw [if_pos (by decide +kernel)]; kernel_rfl) | (rw [if_neg (by decide +kernel)]; exact ⟨rfl, rfl⟩))
    (fun os started H enc _ => lifted os started H enc)
theorem proved : Rows.ReplyBaseSaid := over
#print axioms proved
end Go.Proofs.Ytdkjlbbbdjkhbaa.replyBase
namespace Go.Proofs.Ytdkjlbbbdjkhbaa
/-- The row, under a short name, for the claim. -/
theorem replyBase_holds : Rows.ReplyBaseSaid := replyBase.proved
end Go.Proofs.Ytdkjlbbbdjkhbaa
