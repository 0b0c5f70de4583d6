/- The addresses and the names among records are what the document says: in plain words. -/
import Derived.Test.YtdkjlbbbdjkhbaaFinW
import Derived.Test.YtdkjlbbbdjkhbaaRepA
import Derived.Test.YtdkjlbbbdjkhbaaActB
set_option linter.unusedVariables false
namespace Go.Proofs.Ytdkjlbbbdjkhbaa.Pure
open Go.RowKit Go.Proofs.Ytdkjlbbbdjkhbaa.PAll Go.Proofs.Ytdkjlbbbdjkhbaa.Hand Go.Proofs.Ytdkjlbbbdjkhbaa.NamL Go.Proofs.Ytdkjlbbbdjkhbaa.ActA Go.Proofs.YtdkjlbbbdjkhbaaW.PrintWords Go.Proofs.YtdkjlbbbdjkhbaaW.PrintLast
theorem labels_at (s : ByteArray) : ∃ r, name_Labels.f 300 s = some r := by
  rcases nm_or s with ⟨ls, h⟩ | h
  · obtain ⟨h1, h2, h3, h4⟩ := id h
    refine ⟨(ls.map mkB, true), ?_⟩
    unfold name_Labels.f
    have e : (s.toList != (foldS s).toList) = false := by rw [(foldS_eq s).2 h3]; simp
    rw [if_neg (by omega), folded_some s h4, Option.bind_some, e]
    simp only [name_Labels.j0]
    rw [if_neg (by decide), labels_loop s.size _ s [] (Nat.le_refl _) (by simp; omega) (by omega), h.code]
    rfl
  · refine ⟨([], false), ?_⟩
    unfold name_Labels.f
    by_cases h4 : s.size ≤ 254
    · rw [if_neg (by omega), folded_some s h4, Option.bind_some]
      by_cases h3 : Low (B s)
      · have e : (s.toList != (foldS s).toList) = false := by rw [(foldS_eq s).2 h3]; simp
        rw [e]
        simp only [name_Labels.j0]
        rw [if_neg (by decide), labels_loop s.size _ s [] (Nat.le_refl _) (by simp; omega) (by omega)]
        cases hd : dec (B s) with
        | none => rfl
        | some ls => exact absurd (Nm.of_dec hd h3 h4) (h ls)
      · have e : (s.toList != (foldS s).toList) = true := by
          rw [bne_iff_ne]
          intro he
          exact h3 ((foldS_eq s).1 ((toList_iff _ _).1 he).symm)
        rw [e]
        simp only [name_Labels.j0]
        rfl
    · rw [if_pos (by omega)]
      simp only [name_Labels.j0]
      rfl
def mb (s : ByteArray) : Bool := (name_May.f 300 s).getD false
theorem may_at (s : ByteArray) (k : Nat) (hk : 300 ≤ k) : name_May.f k s = some (mb s) := by
  obtain ⟨r, hr⟩ := labels_at s
  have h : name_May.f 300 s = some r.2 := by unfold name_May.f; rw [hr]; rfl
  have e : mb s = r.2 := by unfold mb; rw [h]; rfl
  rw [e]
  exact at_rounds (g := fun k => name_May.f k s) (fun k => name_May.mono s k) hk h
theorem addrs_loop (rs : List S43) (hl : rs.length ≤ 3518437208783) (d : Nat) :
    ∀ (k i : Nat), rs.length = i + d → d < k → reply_Addresses.l0 k (addrsOf (rs.take i)) rs (rs.length : Int) i = some (addrsOf rs) := by
  induction d with
  | zero =>
    intro k i hd hk
    obtain ⟨k, rfl⟩ : ∃ m, k = m + 1 := ⟨k - 1, by omega⟩
    obtain rfl : i = rs.length := by omega
    simp only [reply_Addresses.l0]
    rw [if_neg (by omega), List.take_length]
  | succ d ih =>
    intro k i hd hk
    obtain ⟨k, rfl⟩ : ∃ m, k = m + 1 := ⟨k - 1, by omega⟩
    have hx : i < rs.length := by omega
    have hr := Hand.rdx rs i hx
    have hw : wrap64 ((i : Int) + 1) = ((i + 1 : Nat) : Int) := NamL.w64 (n := (i : Int) + 1) (by omega) (by omega)
    have step := ih k (i + 1) (by omega) (by omega)
    have hlen := addrs_len (rs.take i)
    rw [List.length_take] at hlen
    have yes : isAddr (rd_T43 rs (i : Int)) = true → reply_Addresses.l0 k (addrsOf (rs.take i) ++ [(rd_T43 rs (i : Int)).f3]) rs (rs.length : Int) ((i + 1 : Nat) : Int) = some (addrsOf rs) := fun h => by
      rw [take_addrs_true rs i hx _ hr h] at step
      exact step
    have no : isAddr (rd_T43 rs (i : Int)) = false → reply_Addresses.l0 k (addrsOf (rs.take i)) rs (rs.length : Int) ((i + 1 : Nat) : Int) = some (addrsOf rs) := fun h => by
      rw [take_addrs_false rs i hx _ hr h] at step
      exact step
    clear hr step
    simp only [reply_Addresses.l0]
    rw [if_pos (by omega), if_pos (by omega), if_pos (by omega), hw]
    generalize rd_T43 rs (i : Int) = r at yes no
    by_cases c1 : r.f1 = 1
    · rw [if_pos c1]
      by_cases c4 : (r.f3.size : Int) = 4
      · rw [if_pos c4, if_pos (by omega)]
        exact yes (by unfold isAddr; rw [if_pos c1]; exact decide_eq_true (by omega))
      · rw [if_neg c4, if_neg (by omega)]
        exact no (by unfold isAddr; rw [if_pos c1]; exact decide_eq_false (by omega))
    · rw [if_neg c1]
      by_cases c28 : r.f1 = 28
      · rw [if_pos c28]
        by_cases c16 : (r.f3.size : Int) = 16
        · rw [if_pos c16, if_pos (by omega)]
          exact yes (by unfold isAddr; rw [if_neg c1, if_pos c28]; exact decide_eq_true (by omega))
        · rw [if_neg c16]
          exact no (by unfold isAddr; rw [if_neg c1, if_pos c28]; exact decide_eq_false (by omega))
      · rw [if_neg c28]
        exact no (by unfold isAddr; rw [if_neg c1, if_neg c28])
theorem names_loop (rs : List S43) (hl : rs.length ≤ 3518437208783) (d : Nat) :
    ∀ (k i : Nat), rs.length = i + d → d + 300 < k → reply_Names.l0 k (namesOf mb (rs.take i)) rs (rs.length : Int) i = some (namesOf mb rs) := by
  induction d with
  | zero =>
    intro k i hd hk
    obtain ⟨k, rfl⟩ : ∃ m, k = m + 1 := ⟨k - 1, by omega⟩
    obtain rfl : i = rs.length := by omega
    simp only [reply_Names.l0]
    rw [if_neg (by omega), List.take_length]
  | succ d ih =>
    intro k i hd hk
    obtain ⟨k, rfl⟩ : ∃ m, k = m + 1 := ⟨k - 1, by omega⟩
    have hx : i < rs.length := by omega
    have hr := Hand.rdx rs i hx
    have hw : wrap64 ((i : Int) + 1) = ((i + 1 : Nat) : Int) := NamL.w64 (n := (i : Int) + 1) (by omega) (by omega)
    have step := ih k (i + 1) (by omega) (by omega)
    have hlen := names_len mb (rs.take i)
    rw [List.length_take] at hlen
    have yes : isName mb (rd_T43 rs (i : Int)) = true → reply_Names.l0 k (namesOf mb (rs.take i) ++ [(rd_T43 rs (i : Int)).f3]) rs (rs.length : Int) ((i + 1 : Nat) : Int) = some (namesOf mb rs) := fun h => by
      rw [take_names_true mb rs i hx _ hr h] at step
      exact step
    have no : isName mb (rd_T43 rs (i : Int)) = false → reply_Names.l0 k (namesOf mb (rs.take i)) rs (rs.length : Int) ((i + 1 : Nat) : Int) = some (namesOf mb rs) := fun h => by
      rw [take_names_false mb rs i hx _ hr h] at step
      exact step
    clear hr step
    simp only [reply_Names.l0]
    rw [if_pos (by omega), if_pos (by omega), if_pos (by omega), hw]
    generalize rd_T43 rs (i : Int) = r at yes no
    rw [may_at r.f3 k (by omega), Option.bind_some]
    by_cases c2 : r.f1 = 2
    · rw [if_pos c2]
      cases hm : mb r.f3
      · rw [if_neg (by decide)]
        exact no (by unfold isName; rw [if_pos c2, hm])
      · rw [if_pos rfl, if_pos (by omega)]
        exact yes (by unfold isName; rw [if_pos c2, hm])
    · rw [if_neg c2]
      exact no (by unfold isName; rw [if_neg c2])
theorem fit_at (rs : List S43) (hl : rs.length ≤ 3518437208783) (k : Nat) (hk : rs.length + 400 ≤ k) : Fit k mb rs :=
  ⟨hl, addrs_loop rs hl rs.length k 0 (by omega) (by omega), names_loop rs hl rs.length k 0 (by omega) (by omega)⟩
theorem ReplyFinds (rs : List S43) (qs : List S86) (hl : rs.length * 40 ≤ 140737488351232) (ha : ∀ a ∈ qs, ActOk a) (hal : qs.length ≤ 140737488351232) :
    ∃ (k : Nat) (recs : List S43), bolterlaw21_awake.f k = some true ∧ bolterlaw05_Records.f k qs 20 = some recs ∧ (∀ s, name_May.f k s = some (mb s)) ∧ Fit k mb rs ∧ Fit k mb recs := by
  obtain ⟨recs, r1, r2, K, hK⟩ := records_ev qs 20 ha hal (by decide)
  dsimp only at hK
  refine ⟨K + rs.length + recs.length + 500, recs, ?_, hK _ (by omega), fun s => may_at s _ (by omega), fit_at rs (by omega) _ (by omega), fit_at recs (by omega) _ (by omega)⟩
  exact at_rounds (g := fun k => bolterlaw21_awake.f k) (fun k => bolterlaw21_awake.mono k) (by omega) RepA.awake_at
end Go.Proofs.Ytdkjlbbbdjkhbaa.Pure
