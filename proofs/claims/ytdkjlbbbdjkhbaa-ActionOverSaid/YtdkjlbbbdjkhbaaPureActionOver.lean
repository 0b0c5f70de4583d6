/- What the statement ActionOver asks of its callees: they answer so, for all numbers. -/
import Derived.Test.YtdkjlbbbdjkhbaaHandO
import Derived.Test.YtdkjlbbbdjkhbaaActC
set_option linter.unusedVariables false
namespace Go.Proofs.Ytdkjlbbbdjkhbaa.Pure
open Go.RowKit Go.Proofs.Ytdkjlbbbdjkhbaa.PAll Go.Proofs.Ytdkjlbbbdjkhbaa.Hand Go.Proofs.Ytdkjlbbbdjkhbaa.NamL Go.Proofs.Ytdkjlbbbdjkhbaa.RecA Go.Proofs.Ytdkjlbbbdjkhbaa.ActA Go.Proofs.YtdkjlbbbdjkhbaaW.PrintWords Go.Proofs.YtdkjlbbbdjkhbaaW.PrintLast
theorem ActionOver (how : Int) (ns : List Int) (a3 : Int) (hh : (Lit.int .u8 how).wf = true) (hl : ns.length * 1 ≤ 140737488351232) (hx : ∀ x ∈ ns, (Lit.int .u8 x).wf = true) :
    ∃ (k : Nat) (t : ByteArray) (r1 : Int) (r2 : ByteArray) (r3 r5 : Bool), bolterlaw14_awake.f k = some true ∧ bolterlaw14_Target.f k how ns = some t ∧
      action_Of.f k [(⟨(⟨#[]⟩ : ByteArray), 5, 0, t⟩ : S43)] = some (r1, r2, r3, [], r5) ∧ action_Same.f k r1 r2 r3 [] r1 r2 r3 [] = some true ∧ action_Same.f k a3 ⟨#[]⟩ false [] a3 ⟨#[]⟩ false [] = some true := by
  obtain ⟨KA, hA⟩ := awake14
  obtain ⟨⟨KT, hT⟩, nT, sT⟩ := target_ev how ns hh hl hx
  generalize (mkB (enc (tlbs how ns))) = t at *
  have tg := targetGo_eq nT
  obtain ⟨K1, h1⟩ := recs_of [(⟨(⟨#[]⟩ : ByteArray), 5, 0, t⟩ : S43)] (by simp)
  have hrec : (ofGo t (tlbs how ns)).2.2.2 = [] := by unfold ofGo; (repeat' split) <;> rfl
  have e1 : recsGo [(⟨(⟨#[]⟩ : ByteArray), 5, 0, t⟩ : S43)] = ((ofGo t (tlbs how ns)).1, (ofGo t (tlbs how ns)).2.1, (ofGo t (tlbs how ns)).2.2.1, [], true) := by
    have e0 : recsGo [(⟨(⟨#[]⟩ : ByteArray), 5, 0, t⟩ : S43)] = ((targetGo t).1, (targetGo t).2.1, (targetGo t).2.2.1, (targetGo t).2.2.2, true) := rfl
    rw [e0, tg, hrec]
  rw [e1] at h1
  obtain ⟨K2, h2⟩ := same_act ((ofGo t (tlbs how ns)).1, (ofGo t (tlbs how ns)).2.1, (ofGo t (tlbs how ns)).2.2.1, []) ((ofGo t (tlbs how ns)).1, (ofGo t (tlbs how ns)).2.1, (ofGo t (tlbs how ns)).2.2.1, []) (by simp)
  obtain ⟨K3, h3⟩ := same_act (a3, ⟨#[]⟩, false, []) (a3, ⟨#[]⟩, false, []) (by simp)
  rw [sameA_refl] at h2 h3
  dsimp only at hA hT h1 h2 h3
  exact ⟨KA + KT + K1 + K2 + K3, t, _, _, _, _, hA _ (by omega), hT _ (by omega), h1 _ (by omega), h2 _ (by omega), h3 _ (by omega)⟩
end Go.Proofs.Ytdkjlbbbdjkhbaa.Pure
