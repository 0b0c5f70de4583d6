/- Records that are no CNAME, SOA or NS are told as they are: in plain words. -/
import Derived.Test.YtdkjlbbbdjkhbaaPAllx53
import Derived.Test.YtdkjlbbbdjkhbaaActC
set_option linter.unusedVariables false
namespace Go.Proofs.Ytdkjlbbbdjkhbaa.Pure
open Go.RowKit Go.Proofs.Ytdkjlbbbdjkhbaa.PAll Go.Proofs.Ytdkjlbbbdjkhbaa.Hand Go.Proofs.Ytdkjlbbbdjkhbaa.NamL Go.Proofs.Ytdkjlbbbdjkhbaa.RecA Go.Proofs.Ytdkjlbbbdjkhbaa.ActA Go.Proofs.YtdkjlbbbdjkhbaaW.PrintWords Go.Proofs.YtdkjlbbbdjkhbaaW.PrintLast
def okR (r : S43) : Bool := !(r.f1 == 5) && (!(r.f1 == 6) && !(r.f1 == 2))
theorem local_loop (a1 : Int) (rs : List S43) (hl : rs.length ≤ 1000) (K : Nat) (fin : ∀ k, K ≤ k → bolterlaw14_ActionLocal.l0 (k + 1) a1 (rs.filter okR) rs (rs.length : Int) (rs.length : Int) = some true) (d : Nat) :
    ∀ (k i : Nat), rs.length = i + d → K + d < k → bolterlaw14_ActionLocal.l0 k a1 ((rs.take i).filter okR) rs (rs.length : Int) i = some true := by
  induction d with
  | zero =>
    intro k i hd hk
    obtain ⟨k, rfl⟩ : ∃ m, k = m + 1 := ⟨k - 1, by omega⟩
    obtain rfl : i = rs.length := by omega
    rw [List.take_length]
    exact fin k (by omega)
  | succ d ih =>
    intro k i hd hk
    obtain ⟨k, rfl⟩ : ∃ m, k = m + 1 := ⟨k - 1, by omega⟩
    have hx : i < rs.length := by omega
    have e : (rs.take (i + 1)).filter okR = (rs.take i).filter okR ++ [rs[i]].filter okR := by rw [List.take_succ_eq_append_getElem hx, List.filter_append]
    have hw : wrap64 ((i : Int) + 1) = ((i + 1 : Nat) : Int) := RecA.w64 (n := (i : Int) + 1) (by omega) (by omega)
    have step := ih k (i + 1) (by omega) (by omega)
    rw [e] at step
    have bad : okR rs[i] = false → bolterlaw14_ActionLocal.l0 k a1 ((rs.take i).filter okR) rs (rs.length : Int) (wrap64 ((i : Int) + 1)) = some true := by
      intro h
      rw [List.filter_cons, h, if_neg Bool.false_ne_true, List.filter_nil, List.append_nil] at step
      rw [hw]
      exact step
    simp only [bolterlaw14_ActionLocal.l0]
    rw [if_pos (by omega), if_pos (by omega), if_pos (by omega), rdx rs i hx]
    by_cases c5 : rs[i].f1 = 5
    · rw [if_pos c5]; exact bad (by unfold okR; simp [c5])
    rw [if_neg c5]
    by_cases c6 : rs[i].f1 = 6
    · rw [if_pos c6]; exact bad (by unfold okR; simp [c6])
    rw [if_neg c6]
    by_cases c2 : rs[i].f1 = 2
    · rw [if_pos c2]; exact bad (by unfold okR; simp [c2])
    rw [if_neg c2, Option.bind_some]
    have hf : ((rs.take i).filter okR).length ≤ 1000 := Nat.le_trans (List.length_filter_le _ _) (by rw [List.length_take]; omega)
    rw [if_pos (by simp only [List.length_cons, List.length_nil]; omega), hw]
    rw [List.filter_cons, show okR rs[i] = true by unfold okR; simp [c5, c6, c2], if_pos rfl, List.filter_nil] at step
    exact step
theorem ActionLocal (ac : List S86) (a1 : Int) (ha : ∀ a ∈ ac, ActOk a) (hal : ac.length ≤ 140737488351232) (hh : (Lit.int .u8 a1).wf = true) : ∃ k, bolterlaw14_ActionLocal.f k ac a1 = some true := by
  obtain ⟨KA, hA⟩ := awake14
  obtain ⟨rs, r1, r2, K3, h3⟩ := records_ev ac 8 ha hal (by decide)
  have hrl : rs.length ≤ 1000 := by omega
  have hfl : (rs.filter okR).length ≤ rs.length := List.length_filter_le _ _
  obtain ⟨K1, h1⟩ := recs_of (rs.filter okR) (by omega)
  dsimp only at hA h1 h3
  have fin : ∃ K, ∀ k, K ≤ k → bolterlaw14_ActionLocal.l0 (k + 1) a1 (rs.filter okR) rs (rs.length : Int) (rs.length : Int) = some true := by
    by_cases c0 : rs.filter okR = []
    · refine ⟨K1, fun k hk => ?_⟩
      have h1' := h1 k hk
      rw [c0] at h1' ⊢
      simp only [bolterlaw14_ActionLocal.l0]
      rw [if_neg (by omega), h1', Option.bind_some, if_pos (show (([] : List S43).length : Int) = 0 from rfl)]
      rfl
    · have hbad : badR (rs.filter okR) = false := by
        unfold badR
        rw [List.any_eq_false]
        intro r hr
        have := (List.mem_filter.1 hr).2
        unfold okR at this
        simp only [Bool.and_eq_true, Bool.not_eq_true'] at this
        rw [this.1, this.2.1, this.2.2]
        simp
      have hlen : 1 ≤ (rs.filter okR).length := by
        rcases Nat.eq_zero_or_pos (rs.filter okR).length with h | h
        · exact absurd (List.eq_nil_of_length_eq_zero h) c0
        · exact h
      have hhd : ¬ ((rs.filter okR).headD z43).f1 = 5 := by
        cases hf : rs.filter okR with
        | nil => exact absurd hf c0
        | cons r q =>
          rw [List.headD_cons]
          have := (List.mem_filter.1 (show r ∈ rs.filter okR by rw [hf]; exact List.mem_cons_self ..)).2
          unfold okR at this
          simp only [Bool.and_eq_true, Bool.not_eq_true', beq_eq_false_iff_ne] at this
          exact this.1
      generalize rs.filter okR = fs at *
      have eg : recsGo fs = (8, ⟨#[]⟩, false, fs, true) := by
        unfold recsGo
        rw [hbad, Bool.false_or, if_neg (by rw [beq_iff_eq]; omega), if_neg hhd]
      rw [eg] at h1
      have ⟨b0, b1⟩ : 0 ≤ a1 ∧ a1 ≤ 255 := u8b hh
      have ht : 0 ≤ Int.tmod a1 3 ∧ Int.tmod a1 3 < 3 := by rw [Int.tmod_eq_emod_of_nonneg b0]; omega
      have hk3 : rd ([5, 6, 2] : List Int) (Int.tmod a1 3) = 5 ∨ rd ([5, 6, 2] : List Int) (Int.tmod a1 3) = 6 ∨ rd ([5, 6, 2] : List Int) (Int.tmod a1 3) = 2 := by
        rcases (show Int.tmod a1 3 = 0 ∨ Int.tmod a1 3 = 1 ∨ Int.tmod a1 3 = 2 by omega) with h | h | h <;> rw [h] <;> decide
      generalize hr : rd ([5, 6, 2] : List Int) (Int.tmod a1 3) = kd at hk3
      have e2 : recsGo (fs ++ [(⟨(⟨#[]⟩ : ByteArray), kd, 0, (⟨#[]⟩ : ByteArray)⟩ : S43)]) = noneA := by
        have : badR (fs ++ [(⟨(⟨#[]⟩ : ByteArray), kd, 0, (⟨#[]⟩ : ByteArray)⟩ : S43)]) = true := by
          unfold badR
          rw [List.any_append]
          have hl2 : 1 < (fs ++ [(⟨(⟨#[]⟩ : ByteArray), kd, 0, (⟨#[]⟩ : ByteArray)⟩ : S43)]).length := by rw [List.length_append]; simp only [List.length_cons, List.length_nil]; omega
          rw [decide_eq_true hl2]
          rcases hk3 with h | h | h <;> subst h <;> simp
        unfold recsGo
        rw [this]
        rfl
      obtain ⟨K2, h2⟩ := recs_of (fs ++ [(⟨(⟨#[]⟩ : ByteArray), kd, 0, (⟨#[]⟩ : ByteArray)⟩ : S43)]) (by rw [List.length_append]; simp only [List.length_cons, List.length_nil]; omega)
      rw [e2] at h2
      obtain ⟨K4, h4⟩ := recs_ev fs fs (by omega)
      rw [eqRs_refl] at h4
      obtain ⟨K5, h5⟩ := same_act (0, ⟨#[]⟩, false, []) (0, ⟨#[]⟩, false, []) (by decide)
      rw [sameA_refl] at h5
      dsimp only at h2 h4 h5
      refine ⟨K1 + K2 + K4 + K5, fun k hk => ?_⟩
      simp only [bolterlaw14_ActionLocal.l0]
      rw [if_neg (by omega), h1 k (by omega), Option.bind_some]
      rw [if_neg (show ¬ (fs.length : Int) = 0 by omega), if_pos (show ([] : List S43).length + fs.length < 3518437208883 by simp only [List.length_nil]; omega), Option.bind_some, Option.bind_some, if_pos ht.1, if_pos (show Int.tmod a1 3 < (([5, 6, 2] : List Int).length : Int) from ht.2), Option.bind_some, hr, List.nil_append]
      rw [if_pos (show fs.length + [(⟨(⟨#[]⟩ : ByteArray), kd, 0, (⟨#[]⟩ : ByteArray)⟩ : S43)].length < 3518437208883 by simp only [List.length_cons, List.length_nil]; omega), h2 k (by omega), Option.bind_some]
      dsimp only
      rw [if_pos rfl, if_pos rfl, h4 k (by omega), Option.bind_some, if_pos rfl]
      unfold noneA
      dsimp only
      rw [if_neg Bool.false_ne_true, h5 k (by omega), Option.bind_some]
  obtain ⟨K5, h5⟩ := fin
  have h6 := local_loop a1 rs hrl K5 h5 rs.length
  refine ⟨KA + K3 + K5 + rs.length + 1, ?_⟩
  unfold bolterlaw14_ActionLocal.f
  rw [hA _ (by omega), Option.bind_some, if_pos rfl, show (8 : Int) = ((8 : Nat) : Int) from rfl, h3 _ (by omega), Option.bind_some]
  have h7 := h6 (KA + K3 + K5 + rs.length + 1) 0 (by omega) (by omega)
  rw [List.take_zero, List.filter_nil] at h7
  exact h7
end Go.Proofs.Ytdkjlbbbdjkhbaa.Pure
