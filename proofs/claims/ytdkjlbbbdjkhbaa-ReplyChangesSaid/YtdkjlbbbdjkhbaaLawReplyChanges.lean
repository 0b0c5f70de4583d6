/- Which actions change an answer, and how many bytes one may have, is what the document says: for every kind, size and query. -/
import Derived.Test.YtdkjlbbbdjkhbaaRows
import Derived.Test.YtdkjlbbbdjkhbaaPAllx24
import Derived.Test.YtdkjlbbbdjkhbaaPureReplyChanges
import Derived.Test.YtdkjlbbbdjkhbaaOpenM
import Derived.WalkKit
import Derived.ProofKit
import Derived.OpenShut
import Derived.ShutString
import Derived.ChangeOld
import Derived.Below
import Derived.SizedLaws
import Derived.Carry
namespace Go.Proofs.Ytdkjlbbbdjkhbaa.replyChanges
open Go.ChangeShapes Go.WideShapes Go.ChangeAt Go.RowKit
open Go.ChangeMaps (open_string shut_string)
set_option linter.unusedVariables false
theorem own : ownKnob Try.prog.godebug = none := by kernel_rfl
theorem laidOut : laidOutB Try.prog = true := by kernel_rfl
set_option maxRecDepth 100000 in
theorem lifted (os : Os) (started : os.Started) (H : Type) (enc : TypeId × Value → H) :
    ReturnsInHanded {} Try.checked os 11 .any (Rows.replyChangesSpec.pre6 enc Try.prog Try.f11 Rows.replyChangesRow.domain false) (Rows.replyChangesSpec.post enc Try.prog Try.f11 false true false false) := by
  refine returnsInHanded_of_change_sized (C := Try.checked) own started (by kernel_rfl) Try.func11
    (ChangeSpec.witness6 (enc := enc) (C := Try.checked) false ⟨#[], #[.int .i64 0, .bool false, .int .i64 0, .agg #[.int .u16 0, .bool false, .int .i64 0, .bool false, .bool false, .bool false, .bool false, .int .i64 0, .string ByteArray.empty, .int .u16 0, .slice none 0 0, .slice none 0 0, .slice none 0 0, .int .i64 0]], []⟩ 8 (by kernel_rfl) (by kernel_rfl) (by kernel_rfl) (by kernel_rfl)) ?_
  intro W base args ds gs before hval0 hW hcnd hsz0 _
  have hsz : (DataW.weightsEach Try.prog (Try.f11.params.toList ++ Rows.replyChangesSpec.plain.varTypes Try.prog) (ds ++ gs)).all (· ≤ reachBytes) = true := hsz0
  have hval : ∀ (j : Nat) t v, Try.f11.params[j]? = some t → args[j]? = some v → Value.okWide Try.prog W .any base t v := hval0
  have hW' := hW
  obtain ⟨p, q, hA0, hV, rfl, hfz, hnd⟩ := hW
  have hA : DataW.TrodAll enc Try.prog W 0 (fun _ => true) true Try.f11.params.toList args.toList ds p := hA0
  rw [Try.params11] at hA hval hsz
  obtain ⟨v0, vs0, d0, ds0, p0, q0, hargs, rfl, rfl, h0, r0⟩ := trodAll_cons hA
  obtain ⟨v1, vs1, d1, ds1, p1, q1, rfl, rfl, rfl, h1, r1⟩ := trodAll_cons r0
  obtain ⟨v2, vs2, d2, ds2, p2, q2, rfl, rfl, rfl, h2, r2⟩ := trodAll_cons r1
  obtain ⟨v3, vs3, d3, ds3, p3, q3, rfl, rfl, rfl, h3, r3⟩ := trodAll_cons r2
  obtain ⟨rfl, rfl, rfl⟩ := trodAll_nil r3
  obtain rfl : args = #[v0, v1, v2, v3] := by cases args; simp_all
  obtain ⟨rfl, rfl⟩ := trodVars_none hV
  have k0 := h0
  have lt0 : ∀ x ∈ p0, x.block < W.heap.size := by obtain ⟨m, hm⟩ := k0; exact DataW.trod_lt m _ _ _ hm
  have k1 := h1
  have lt1 : ∀ x ∈ p1, x.block < W.heap.size := by obtain ⟨m, hm⟩ := k1; exact DataW.trod_lt m _ _ _ hm
  have k2 := h2
  have lt2 : ∀ x ∈ p2, x.block < W.heap.size := by obtain ⟨m, hm⟩ := k2; exact DataW.trod_lt m _ _ _ hm
  have k3 := h3
  have lt3 : ∀ x ∈ p3, x.block < W.heap.size := by obtain ⟨m, hm⟩ := k3; exact DataW.trod_lt m _ _ _ hm
  obtain ⟨a0, rfl, rfl, rfl, w0⟩ := open_int Try.underlying3 (hval 0 3 v0 rfl rfl) h0
  obtain ⟨a1, rfl, rfl, rfl⟩ := open_bool Try.underlying4 (hval 1 4 v1 rfl rfl) h1
  obtain ⟨a2, rfl, rfl, rfl, w2⟩ := open_int Try.underlying3 (hval 2 3 v2 rfl rfl) h2
  obtain ⟨m3, M3⟩ := OpenK.msg_arg hsz (j := 3) rfl rfl (hval 3 58 v3 rfl rfl) h3
  obtain ⟨A3_0, c3_0, A3_1, c3_1, A3_2, c3_2, rfl, R3_0, L3_0, R3_1, L3_1, R3_2, L3_2⟩ := M3.val
  clear hA0 hval0 hsz0 hsz
  obtain ⟨k, hk⟩ := (⟨12, Pure.ReplyChanges a0 a1 a2 m3.1.1 m3.1.2.1 m3.1.2.2.1 m3.1.2.2.2.1 m3.1.2.2.2.2.1 m3.1.2.2.2.2.2.1 m3.1.2.2.2.2.2.2.1 m3.1.2.2.2.2.2.2.2 m3.2.1.1 m3.2.1.2 m3.2.2.1 m3.2.2.2.1 m3.2.2.2.2.1 m3.2.2.2.2.2⟩ : ∃ k, PAll.bolterlaw21_ReplyChanges.f k a0 a1 a2 m3.1.1 m3.1.2.1 m3.1.2.2.1 m3.1.2.2.2.1 m3.1.2.2.2.2.1 m3.1.2.2.2.2.2.1 m3.1.2.2.2.2.2.2.1 m3.1.2.2.2.2.2.2.2 m3.2.1.1 m3.2.1.2 m3.2.2.1 m3.2.2.2.1 m3.2.2.2.2.1 m3.2.2.2.2.2 = some true)
  refine (PAll.bolterlaw21_ReplyChanges.calls k a0 a1 a2 m3.1.1 m3.1.2.1 m3.1.2.2.1 m3.1.2.2.2.1 m3.1.2.2.2.2.1 m3.1.2.2.2.2.2.1 m3.1.2.2.2.2.2.2.1 m3.1.2.2.2.2.2.2.2 m3.2.1.1 m3.2.1.2 A3_0 c3_0 m3.2.2.1 A3_1 c3_1 m3.2.2.2.1 A3_2 c3_2 m3.2.2.2.2.1 m3.2.2.2.2.2 true W R3_0 L3_0 R3_1 L3_1 R3_2 L3_2 hk rfl).mono fun e W' ⟨he, bel⟩ => ?_
  subst he
  exact ⟨_, rfl, _, _, _, [], _, [], hW', trodAll_mk1 (shut_bool Try.underlying4 _), (trodAll_cons_mk (Below.trod laidOut (by kernel_rfl) (of_decide_eq_true (by kernel_rfl)) k0 bel lt0) (trodAll_cons_mk (Below.trod laidOut (by kernel_rfl) (of_decide_eq_true (by kernel_rfl)) k1 bel lt1) (trodAll_cons_mk (Below.trod laidOut (by kernel_rfl) (of_decide_eq_true (by kernel_rfl)) k2 bel lt2) (trodAll_cons_mk (Below.trod laidOut (by kernel_rfl) (of_decide_eq_true (by kernel_rfl)) k3 bel lt3) trodAll_mk0)))), rfl, bel.frame _, fun h => by cases h⟩
theorem over : Rows.replyChangesRow.holds Try.pinned (OpenSpec.ofChange Rows.replyChangesSpec) :=
  OpenClaim.holds_of_wide 11 Try.f11 rfl rfl rfl rfl rfl rfl rfl ⟨rfl, rfl, rfl, rfl, rfl⟩ rfl rfl rfl rfl rfl (by kernel_rfl) Try.func11 (by kernel_rfl)
    (of_decide_eq_true (by kernel_rfl)) (by unfold Func.isWrapper; first | (rw [if_pos (by decide +kernel)]; kernel_rfl) | (rw [if_neg (by decide +kernel)]; exact ⟨rfl, rfl⟩))
    (fun os started H enc _ => lifted os started H enc)
theorem proved : Rows.ReplyChangesSaid := over
#print axioms proved
end Go.Proofs.Ytdkjlbbbdjkhbaa.replyChanges
namespace Go.Proofs.Ytdkjlbbbdjkhbaa
/-- The row, under a short name, for the claim. -/
theorem replyChanges_holds : Rows.ReplyChangesSaid := replyChanges.proved
end Go.Proofs.Ytdkjlbbbdjkhbaa
