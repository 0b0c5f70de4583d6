/- Two actions are the same just if all their parts are: in plain words. -/
import Derived.Test.YtdkjlbbbdjkhbaaPAllx52
import Derived.Test.YtdkjlbbbdjkhbaaActC
set_option linter.unusedVariables false
namespace Go.Proofs.Ytdkjlbbbdjkhbaa.Pure
open Go.RowKit Go.Proofs.Ytdkjlbbbdjkhbaa.PAll Go.Proofs.Ytdkjlbbbdjkhbaa.Hand Go.Proofs.Ytdkjlbbbdjkhbaa.NamL Go.Proofs.Ytdkjlbbbdjkhbaa.RecA Go.Proofs.Ytdkjlbbbdjkhbaa.ActA Go.Proofs.YtdkjlbbbdjkhbaaW.PrintWords Go.Proofs.YtdkjlbbbdjkhbaaW.PrintLast
theorem ActionSame (ac bc : List S86) (how : Int) (ns : List Int) (kind : Int) (ha : ∀ a ∈ ac, ActOk a) (hal : ac.length ≤ 140737488351232) (hb : ∀ a ∈ bc, ActOk a) (hbl : bc.length ≤ 140737488351232)
    (hh : (Lit.int .u8 how).wf = true) (hl : ns.length * 1 ≤ 140737488351232) (hx : ∀ x ∈ ns, (Lit.int .u8 x).wf = true) (hk : (Lit.int .u8 kind).wf = true) : ∃ k, bolterlaw14_ActionSame.f k ac bc how ns kind = some true := by
  obtain ⟨KA, hA⟩ := awake14
  obtain ⟨⟨KT, hT⟩, nT, sT⟩ := target_ev how ns hh hl hx
  have hsz := bsize_le nT
  generalize (mkB (enc (tlbs how ns))) = t at *
  obtain ⟨rs, r1, r2, K3, h3⟩ := records_ev ac 4 ha hal (by decide)
  obtain ⟨qs, q1, q2, K4, h4⟩ := records_ev bc 4 hb hbl (by decide)
  have ⟨b0, b1⟩ : 0 ≤ kind ∧ kind ≤ 255 := u8b hk
  have hm : 0 ≤ Int.tmod kind 9 ∧ Int.tmod kind 9 < 9 := by rw [Int.tmod_eq_emod_of_nonneg b0]; omega
  have w1 : wrap64 (Int.tmod kind 9) = Int.tmod kind 9 := RecA.w64 hm.1 (by omega)
  have w2 : wrap64 (Int.tmod kind 9 + 1) = Int.tmod kind 9 + 1 := RecA.w64 (by omega) (by omega)
  generalize hkd : Int.tmod kind 9 = kd at hm w1 w2
  generalize hw : (Int.tmod how 2 == 1) = wd
  have hrl : rs.length ≤ 140737488351232 := by omega
  have s1 := same_act (kd, t, wd, rs) (kd, t, wd, rs) hrl
  have s2 := same_act (kd, t, wd, rs) (kd, t, wd, qs) hrl
  have s3 := same_act (kd, t, wd, rs) (kd + 1, t, wd, rs) hrl
  have s4 := same_act (kd, t, wd, rs) (kd, t, !wd, rs) hrl
  have s5 := same_act (kd, t ++ (⟨#[1, 113]⟩ : ByteArray), wd, rs) (kd, t, wd, rs) hrl
  rw [sameA_refl] at s1
  have e2 : sameA (kd, t, wd, rs) (kd, t, wd, qs) = eqRs rs qs := by unfold sameA; rw [decide_eq_true rfl]; simp
  have e3 : sameA (kd, t, wd, rs) (kd + 1, t, wd, rs) = false := by unfold sameA; rw [show (kd == kd + 1) = false from beq_eq_false_iff_ne.2 (by omega)]; rfl
  have e4 : sameA (kd, t, wd, rs) (kd, t, !wd, rs) = false := by unfold sameA; cases wd <;> simp
  have e5 : sameA (kd, t ++ (⟨#[1, 113]⟩ : ByteArray), wd, rs) (kd, t, wd, rs) = false := by
    unfold sameA
    have hne : ¬ t ++ (⟨#[1, 113]⟩ : ByteArray) = t := by
      intro e
      have := congrArg ByteArray.size e
      rw [ByteArray.size_append] at this
      have h2 : (⟨#[1, 113]⟩ : ByteArray).size = 2 := rfl
      omega
    rw [decide_eq_false hne, Bool.false_and, Bool.and_false]
  rw [e2] at s2
  rw [e3] at s3
  rw [e4] at s4
  rw [e5] at s5
  obtain ⟨K5, h5⟩ := s1
  obtain ⟨K6, h6⟩ := s2
  obtain ⟨K7, h7⟩ := s3
  obtain ⟨K8, h8⟩ := s4
  obtain ⟨K9, h9⟩ := s5
  obtain ⟨K10, h10⟩ := recs_ev rs qs hrl
  dsimp only at hA hT h3 h4 h5 h6 h7 h8 h9 h10
  refine ⟨KA + KT + K3 + K4 + K5 + K6 + K7 + K8 + K9 + K10, ?_⟩
  unfold bolterlaw14_ActionSame.f
  rw [hA _ (by omega), Option.bind_some, if_pos rfl, hT _ (by omega), Option.bind_some, show (4 : Int) = ((4 : Nat) : Int) from rfl, h3 _ (by omega), Option.bind_some]
  rw [if_pos (show ([] : List S43).length + rs.length < 3518437208883 by simp only [List.length_nil]; omega), h4 _ (by omega), Option.bind_some, if_pos (by omega), hkd, w1, w2, hw, List.nil_append]
  rw [h5 _ (by omega), Option.bind_some, if_pos rfl, h6 _ (by omega), Option.bind_some, h10 _ (by omega), Option.bind_some, if_pos (beq_self_eq_true _)]
  rw [h7 _ (by omega), Option.bind_some, if_neg Bool.false_ne_true, h8 _ (by omega), Option.bind_some, if_neg Bool.false_ne_true, h9 _ (by omega), Option.bind_some]
  rfl
end Go.Proofs.Ytdkjlbbbdjkhbaa.Pure
