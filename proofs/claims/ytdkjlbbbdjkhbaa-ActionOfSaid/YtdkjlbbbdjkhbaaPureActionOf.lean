/- What records do is what the document says: of up to six, and of a CNAME alone: for all numbers. -/
import Derived.Test.YtdkjlbbbdjkhbaaPAllx49
import Derived.Test.YtdkjlbbbdjkhbaaActC
set_option linter.unusedVariables false
namespace Go.Proofs.Ytdkjlbbbdjkhbaa.Pure
open Go.RowKit Go.Proofs.Ytdkjlbbbdjkhbaa.PAll Go.Proofs.Ytdkjlbbbdjkhbaa.Hand Go.Proofs.Ytdkjlbbbdjkhbaa.NamL Go.Proofs.Ytdkjlbbbdjkhbaa.RecA Go.Proofs.Ytdkjlbbbdjkhbaa.ActA Go.Proofs.YtdkjlbbbdjkhbaaW.PrintWords Go.Proofs.YtdkjlbbbdjkhbaaW.PrintLast
def badTo (rs : List S43) (i : Nat) : Bool := rs.length == 0 || (rs.take i).any (badAt rs.length)
theorem badTo_end (rs : List S43) : badTo rs rs.length = (badR rs || rs.length == 0) := by
  unfold badTo badR
  rw [List.take_length, Bool.or_comm]
  rfl
theorem badTo_succ (rs : List S43) (i : Nat) (h : i < rs.length) : badTo rs (i + 1) = (badTo rs i || badAt rs.length rs[i]) := by
  unfold badTo
  rw [List.take_succ_eq_append_getElem h, List.any_append]
  simp [Bool.or_assoc]
theorem of_law_loop (rs : List S43) (is : Bool) (kd : Int) (s : ByteArray) (w : Bool) (l : List S43) (hl : rs.length ≤ 1000) (K : Nat)
    (fin : ∀ k, K ≤ k → bolterlaw14_ActionOf.l0 (k + 1) rs is (badTo rs rs.length) rs (rs.length : Int) (rs.length : Int) kd s w l = some true) (d : Nat) :
    ∀ (k i : Nat), rs.length = i + d → K + d < k → bolterlaw14_ActionOf.l0 k rs is (badTo rs i) rs (rs.length : Int) i kd s w l = some true := by
  induction d with
  | zero =>
    intro k i hd hk
    obtain ⟨k, rfl⟩ : ∃ m, k = m + 1 := ⟨k - 1, by omega⟩
    obtain rfl : i = rs.length := by omega
    exact fin k (by omega)
  | succ d ih =>
    intro k i hd hk
    obtain ⟨k, rfl⟩ : ∃ m, k = m + 1 := ⟨k - 1, by omega⟩
    have hx : i < rs.length := by omega
    have step : ∀ b, b = badTo rs (i + 1) → bolterlaw14_ActionOf.l0 k rs is b rs (rs.length : Int) (wrap64 ((i : Int) + 1)) kd s w l = some true := by
      intro b hb
      rw [hb, RecA.w64 (n := (i : Int) + 1) (by omega) (by omega), show ((i : Int) + 1) = ((i + 1 : Nat) : Int) from rfl]
      exact ih k (i + 1) (by omega) (by omega)
    have e := badTo_succ rs i hx
    simp only [bolterlaw14_ActionOf.l0]
    rw [if_pos (by omega), if_pos (by omega), if_pos (by omega), rdx rs i hx]
    cases hb : badTo rs i
    · rw [if_neg Bool.false_ne_true]
      rw [hb, Bool.false_or] at e
      by_cases c6 : rs[i].f1 = 6
      · rw [if_pos c6]; exact step _ (by rw [e]; unfold badAt; simp [c6])
      rw [if_neg c6]
      by_cases c2 : rs[i].f1 = 2
      · rw [if_pos c2]; exact step _ (by rw [e]; unfold badAt; simp [c2])
      rw [if_neg c2]
      by_cases c5 : rs[i].f1 = 5
      · rw [if_pos c5]; exact step _ (by rw [e]; unfold badAt; simp [c5]; omega)
      rw [if_neg c5]; exact step _ (by rw [e]; unfold badAt; simp [c5, c6, c2])
    · rw [if_pos rfl]; exact step _ (by rw [e, hb]; rfl)
theorem ActionOf (ac : List S86) (how : Int) (ns : List Int) (ha : ∀ a ∈ ac, ActOk a) (hal : ac.length ≤ 140737488351232) (hh : (Lit.int .u8 how).wf = true) (hl : ns.length * 1 ≤ 140737488351232) (hx : ∀ x ∈ ns, (Lit.int .u8 x).wf = true) :
    ∃ k, bolterlaw14_ActionOf.f k ac how ns = some true := by
  obtain ⟨KA, hA⟩ := awake14
  obtain ⟨⟨KT, hT⟩, nT, sT⟩ := target_ev how ns hh hl hx
  obtain ⟨KO, hO⟩ := of_ev nT
  generalize (mkB (enc (tlbs how ns))) = t at *
  have tg := targetGo_eq nT
  obtain ⟨K1, h1⟩ := recs_of [(⟨(⟨#[]⟩ : ByteArray), 5, 0, t⟩ : S43)] (by simp)
  have e1 : recsGo [(⟨(⟨#[]⟩ : ByteArray), 5, 0, t⟩ : S43)] = ((targetGo t).1, (targetGo t).2.1, (targetGo t).2.2.1, (targetGo t).2.2.2, true) := rfl
  rw [e1, tg] at h1
  have hrec : (ofGo t (tlbs how ns)).2.2.2 = [] := by unfold ofGo; (repeat' split) <;> rfl
  obtain ⟨K2, h2⟩ := same_act (ofGo t (tlbs how ns)) (ofGo t (tlbs how ns)) (by rw [hrec]; decide)
  rw [sameA_refl] at h2
  obtain ⟨rs, r1, r2, K3, h3⟩ := records_ev ac 6 ha hal (by decide)
  obtain ⟨K4, h4⟩ := recs_of rs (by omega)
  dsimp only at hA hT hO h1 h2 h3 h4
  -- behind the loop
  have fin : ∃ K, ∀ k, K ≤ k → bolterlaw14_ActionOf.l0 (k + 1) rs (recsGo rs).2.2.2.2 (badTo rs rs.length) rs (rs.length : Int) (rs.length : Int) (recsGo rs).1 (recsGo rs).2.1 (recsGo rs).2.2.1 (recsGo rs).2.2.2.1 = some true := by
    cases hb : (badR rs || rs.length == 0)
    · match rs, hb, r1, r2 with
      | [], hb, _, _ => exact absurd hb (by decide)
      | r :: q, hb, r1, r2 =>
        by_cases c : r.f1 = 5
        · obtain ⟨ls, hn⟩ := r2 r (by simp) c
          obtain ⟨K5, h5⟩ := of_ev hn
          have hrec2 : (ofGo r.f3 ls).2.2.2 = [] := by unfold ofGo; (repeat' split) <;> rfl
          obtain ⟨K6, h6⟩ := same_act (ofGo r.f3 ls) (ofGo r.f3 ls) (by rw [hrec2]; decide)
          rw [sameA_refl] at h6
          dsimp only at h5 h6
          have eg : recsGo (r :: q) = ((ofGo r.f3 ls).1, (ofGo r.f3 ls).2.1, (ofGo r.f3 ls).2.2.1, (ofGo r.f3 ls).2.2.2, true) := by
            unfold recsGo
            rw [hb, if_neg Bool.false_ne_true, List.headD_cons, if_pos c, targetGo_eq hn]
          refine ⟨K5 + K6, fun k hk => ?_⟩
          rw [badTo_end, hb, eg]
          simp only [bolterlaw14_ActionOf.l0]
          rw [if_neg (by omega), if_neg Bool.false_ne_true, if_pos (by simp only [List.length_cons]; omega), show rd_T43 (r :: q) 0 = r from rfl, if_pos c, if_pos trivial, h5 k (by omega), Option.bind_some, h6 k (by omega), Option.bind_some]
        · obtain ⟨K6, h6⟩ := recs_ev (r :: q) (r :: q) (by omega)
          rw [eqRs_refl] at h6
          dsimp only at h6
          have eg : recsGo (r :: q) = (8, ⟨#[]⟩, false, r :: q, true) := by
            unfold recsGo
            rw [hb, if_neg Bool.false_ne_true, List.headD_cons, if_neg c]
          refine ⟨K6, fun k hk => ?_⟩
          rw [badTo_end, hb, eg]
          simp only [bolterlaw14_ActionOf.l0]
          rw [if_neg (by omega), if_neg Bool.false_ne_true, if_pos (by simp only [List.length_cons]; omega), show rd_T43 (r :: q) 0 = r from rfl, if_neg c, if_pos trivial, if_pos trivial, if_pos (show (⟨#[]⟩ : ByteArray).toList = [] by rw [toList_B]; rfl), if_neg Bool.false_ne_true, h6 k (by omega), Option.bind_some]
    · obtain ⟨K6, h6⟩ := same_act (0, ⟨#[]⟩, false, []) (0, ⟨#[]⟩, false, []) (by decide)
      rw [sameA_refl] at h6
      dsimp only at h6
      have eg : recsGo rs = (0, ⟨#[]⟩, false, [], false) := by unfold recsGo; rw [hb]; rfl
      refine ⟨K6, fun k hk => ?_⟩
      rw [badTo_end, hb, eg]
      simp only [bolterlaw14_ActionOf.l0]
      rw [if_neg (by omega), if_pos trivial, if_neg Bool.false_ne_true, h6 k (by omega), Option.bind_some]
  obtain ⟨K5, h5⟩ := fin
  have h6 := of_law_loop rs (recsGo rs).2.2.2.2 (recsGo rs).1 (recsGo rs).2.1 (recsGo rs).2.2.1 (recsGo rs).2.2.2.1 (by omega) K5 h5 rs.length
  refine ⟨KA + KT + KO + K1 + K2 + K3 + K4 + K5 + 20 + 1, ?_⟩
  unfold bolterlaw14_ActionOf.f
  rw [hA _ (by omega), Option.bind_some, if_pos rfl, hT _ (by omega), Option.bind_some, h1 _ (by omega), Option.bind_some]
  dsimp only
  rw [if_pos rfl, hO _ (by omega), Option.bind_some]
  rw [h2 _ (by omega), Option.bind_some]
  simp only [bolterlaw14_ActionOf.j0]
  rw [if_neg (by decide), show (6 : Int) = ((6 : Nat) : Int) from rfl, h3 _ (by omega), Option.bind_some, h4 _ (by omega), Option.bind_some]
  have e7 : ((rs.length : Int) == 0) = badTo rs 0 := by
    unfold badTo
    rw [List.take_zero, List.any_nil, Bool.or_false]
    cases rs with
    | nil => rfl
    | cons a b => simp only [List.length_cons]; rw [Bool.eq_iff_iff, beq_iff_eq, beq_iff_eq]; omega
  rw [e7]
  exact h6 _ 0 (by omega) (by omega)
end Go.Proofs.Ytdkjlbbbdjkhbaa.Pure
