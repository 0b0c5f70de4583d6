/- Two names are joined, if both are, and they are not too long: for all pairs of texts. -/
import Derived.Test.YtihlimbdgipdeaaPJoix21
import Derived.Test.YtihlimbdgipdeaaNamK
import Derived.Test.YtihlimbdgipdeaaNamW
set_option linter.unusedVariables false
namespace Go.Proofs.Ytihlimbdgipdeaa.Pure
open Go.RowKit Go.Proofs.Ytihlimbdgipdeaa.PJoi Go.Proofs.Ytihlimbdgipdeaa.PNam Go.Proofs.Ytihlimbdgipdeaa.PBase0 Go.Proofs.Ytihlimbdgipdeaa.Hand Go.Proofs.Ytihlimbdgipdeaa.NamL Go.Proofs.YtihlimbdgipdeaaW.PrintWords Go.Proofs.YtihlimbdgipdeaaW.PrintLast

theorem join_bad (k : Nat) (a b : ByteArray) (xs ys : List ByteArray) (one : Bool) (h : one = false → name_Below.f k a b = some false) :
    bolterlaw02_NameJoin.j0 (k + 1) a b xs one ys (⟨#[]⟩ : ByteArray) false true = some true := by
  simp only [bolterlaw02_NameJoin.j0]
  rw [if_pos trivial, if_pos (by rw [toList_B]; rfl), if_neg (by decide)]
  cases one with
  | true => rw [if_pos rfl]
  | false => rw [if_neg (by decide), h rfl, Option.bind_some]; rfl
theorem join_front (k : Nat) (a b : ByteArray) (xs ys : List ByteArray) (one two : Bool) (n : ByteArray) (ok : Bool) (ha : a.size ≤ 140737488351232) (hb : b.size ≤ 140737488351232)
    (h0 : bolterlaw02_awake.f k = some true) (h1 : bolterlaw02_labels.f k a = some (xs, one)) (h2 : bolterlaw02_labels.f k b = some (ys, two)) (h3 : name_Join.f k a b = some (n, ok)) (bad : Bool)
    (hbad : bad = (!one || !two || decide (254 < a.size + b.size))) : bolterlaw02_NameJoin.f k a b = bolterlaw02_NameJoin.j0 k a b xs one ys n ok bad := by
  unfold bolterlaw02_NameJoin.f
  rw [h0, Option.bind_some, if_pos rfl, h1, Option.bind_some, h2, Option.bind_some, h3, Option.bind_some, w64 (n := (a.size : Int) + (b.size : Int)) (by omega) (by omega)]
  dsimp only
  subst hbad
  cases one with
  | false => rw [if_neg (by decide)]; rfl
  | true =>
    rw [if_pos rfl]
    cases two with
    | false => rw [if_neg (by decide)]; rfl
    | true =>
      rw [if_pos rfl]
      have e : decide ((a.size : Int) + (b.size : Int) > 254) = (!true || !true || decide (254 < a.size + b.size)) := by
        simp only [Bool.not_true, Bool.false_or]
        rw [decide_eq_decide]; omega
      rw [e]
theorem NameJoin : bolterlaw02_NameJoin.Pure := by
  intro a b ha hb
  obtain ⟨K, hK⟩ := awake_ev
  dsimp only at hK
  rcases nm_or a with ⟨ls, na⟩ | na
  · obtain ⟨K1, h1⟩ := law_labels_yes na
    dsimp only at h1
    rcases nm_or b with ⟨ms, nb⟩ | nb
    · obtain ⟨K2, h2⟩ := law_labels_yes nb
      dsimp only at h2
      by_cases hs : a.size + b.size ≤ 254
      · obtain ⟨K3, h3⟩ := join_yes na nb hs
        have nj := na.join nb hs
        obtain ⟨K4, h4⟩ := labels_yes nj
        obtain ⟨K5, h5⟩ := below_yes nj nb
        have e1 := enc_length_le ls
        have e2 := na.length
        have e3 := na.2.2.2
        have f1 := enc_length_le ms
        have f2 := nb.length
        have f3 := nb.2.2.2
        obtain ⟨K6, h6⟩ := same_ev ((ls ++ ms).map mkB) (ls.map mkB ++ ms.map mkB) (by rw [List.length_map, List.length_append]; omega)
        rw [decide_eq_true (List.suffix_append _ _)] at h5
        rw [decide_eq_true (by rw [List.map_append])] at h6
        dsimp only at h3 h4 h5 h6
        refine ⟨K + K1 + K2 + K3 + K4 + K5 + K6 + 1, ?_⟩
        generalize hk : K + K1 + K2 + K3 + K4 + K5 + K6 = k
        rw [join_front _ a b _ _ _ _ _ _ ha hb (hK _ (by omega)) (h1 _ (by omega)) (h2 _ (by omega)) (h3 _ (by omega)) false (by simp; omega)]
        simp only [bolterlaw02_NameJoin.j0]
        rw [if_neg (by decide), h4 _ (by omega), Option.bind_some, if_pos trivial, if_pos rfl, if_pos (by rw [List.length_map]; simp; omega), Option.bind_some, List.nil_append, if_pos (by rw [List.length_map, List.length_map]; omega)]
        rw [h6 _ (by omega), Option.bind_some, if_pos rfl, h5 _ (by omega), Option.bind_some]
      · obtain ⟨K3, h3⟩ := join_long na nb (by omega)
        dsimp only at h3
        refine ⟨K + K1 + K2 + K3 + 1, ?_⟩
        generalize hk : K + K1 + K2 + K3 = k
        rw [join_front _ a b _ _ _ _ _ _ ha hb (hK _ (by omega)) (h1 _ (by omega)) (h2 _ (by omega)) (h3 _ (by omega)) true (by simp; omega)]
        exact join_bad k a b _ _ true (fun h => by cases h)
    · obtain ⟨K2, h2⟩ := law_labels_no nb
      obtain ⟨K3, h3⟩ := join_no (a := a) (b := b) (.inr nb)
      dsimp only at h2 h3
      refine ⟨K + K1 + K2 + K3 + 1, ?_⟩
      generalize hk : K + K1 + K2 + K3 = k
      rw [join_front _ a b _ _ _ _ _ _ ha hb (hK _ (by omega)) (h1 _ (by omega)) (h2 _ (by omega)) (h3 _ (by omega)) true (by rfl)]
      exact join_bad k a b _ _ true (fun h => by cases h)
  · obtain ⟨K1, h1⟩ := law_labels_no na
    obtain ⟨K3, h3⟩ := join_no (a := a) (b := b) (.inl na)
    obtain ⟨K4, h4⟩ := below_no_left (b := b) na
    dsimp only at h1 h3 h4
    obtain ⟨ys, two, K2, h2⟩ : ∃ ys two K2, ∀ k, K2 ≤ k → bolterlaw02_labels.f k b = some (ys, two) := by
      rcases nm_or b with ⟨ms, nb⟩ | nb
      · obtain ⟨K2, h2⟩ := law_labels_yes nb
        exact ⟨_, _, K2, h2⟩
      · obtain ⟨K2, h2⟩ := law_labels_no nb
        exact ⟨_, _, K2, h2⟩
    refine ⟨K + K1 + K2 + K3 + K4 + 1, ?_⟩
    generalize hk : K + K1 + K2 + K3 + K4 = k
    rw [join_front _ a b _ _ _ _ _ _ ha hb (hK _ (by omega)) (h1 _ (by omega)) (h2 _ (by omega)) (h3 _ (by omega)) true (by rfl)]
    exact join_bad k a b _ _ false (fun _ => h4 _ (by omega))

end Go.Proofs.Ytihlimbdgipdeaa.Pure
