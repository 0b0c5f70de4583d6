/- Which bytes are a name, and which labels it has, is what the document says: for every text. -/
import Derived.Test.YtihlimbdgipdeaaPNamx25
import Derived.Test.YtihlimbdgipdeaaNamK
import Derived.Test.YtihlimbdgipdeaaNamW
set_option linter.unusedVariables false
namespace Go.Proofs.Ytihlimbdgipdeaa.Pure
open Go.RowKit Go.Proofs.Ytihlimbdgipdeaa.PNam Go.Proofs.Ytihlimbdgipdeaa.PBase0 Go.Proofs.Ytihlimbdgipdeaa.Hand Go.Proofs.Ytihlimbdgipdeaa.NamL Go.Proofs.YtihlimbdgipdeaaW.PrintWords Go.Proofs.YtihlimbdgipdeaaW.PrintLast

theorem labels_join (k : Nat) (s : ByteArray) (ls : List ByteArray) (b : Bool) (ha : bolterlaw02_awake.f k = some true) (h1 : name_Labels.f k s = some (ls, b)) (h2 : bolterlaw02_labels.f k s = some (ls, b))
    (h3 : bolterlaw02_same.f k ls ls = some true) (h4 : name_May.f k s = some b) (h5 : name_Count.f k s = some (ls.length : Int)) : bolterlaw02_NameLabels.f k s = some true := by
  unfold bolterlaw02_NameLabels.f
  rw [ha, Option.bind_some, if_pos rfl, h1, Option.bind_some, h2, Option.bind_some]
  dsimp only
  rw [beq_self_eq_true, if_pos rfl, h3, Option.bind_some, if_pos rfl, h4, Option.bind_some, beq_self_eq_true, if_pos rfl, h5, Option.bind_some, beq_self_eq_true]
theorem NameLabels : bolterlaw02_NameLabels.Pure := by
  intro s hs
  obtain ⟨K, hK⟩ := awake_ev
  rcases nm_or s with ⟨ls, h⟩ | h
  · have hlen : (ls.map mkB).length ≤ 140737488351232 := by
      have := enc_length_le ls
      have h2 := h.length
      have h3 := h.2.2.2
      rw [List.length_map]; omega
    obtain ⟨K1, h1⟩ := labels_yes h
    obtain ⟨K2, h2⟩ := law_labels_yes h
    obtain ⟨K3, h3⟩ := same_ev (ls.map mkB) (ls.map mkB) hlen
    obtain ⟨K4, h4⟩ := may_yes h
    obtain ⟨K5, h5⟩ := count_yes h
    rw [decide_eq_true rfl] at h3
    exact ⟨K + K1 + K2 + K3 + K4 + K5, labels_join _ s _ _ (hK _ (by omega)) (h1 _ (by omega)) (h2 _ (by omega)) (h3 _ (by omega)) (h4 _ (by omega)) (by rw [List.length_map]; exact h5 _ (by omega))⟩
  · obtain ⟨K1, h1⟩ := labels_no h
    obtain ⟨K2, h2⟩ := law_labels_no h
    obtain ⟨K3, h3⟩ := same_ev [] [] (by simp)
    obtain ⟨K4, h4⟩ := may_no h
    obtain ⟨K5, h5⟩ := count_no h
    rw [decide_eq_true rfl] at h3
    exact ⟨K + K1 + K2 + K3 + K4 + K5, labels_join _ s _ _ (hK _ (by omega)) (h1 _ (by omega)) (h2 _ (by omega)) (h3 _ (by omega)) (h4 _ (by omega)) (h5 _ (by omega))⟩

end Go.Proofs.Ytihlimbdgipdeaa.Pure
