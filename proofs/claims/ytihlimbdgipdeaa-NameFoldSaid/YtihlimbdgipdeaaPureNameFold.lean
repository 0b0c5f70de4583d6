/- A byte is folded as the document says: for every byte. -/
import Derived.Test.YtihlimbdgipdeaaPNamx18
import Derived.Test.YtihlimbdgipdeaaNamL
set_option linter.unusedVariables false
namespace Go.Proofs.Ytihlimbdgipdeaa.Pure
open Go.RowKit Go.Proofs.Ytihlimbdgipdeaa.PNam Go.Proofs.Ytihlimbdgipdeaa.PBase0 Go.Proofs.Ytihlimbdgipdeaa.Hand Go.Proofs.Ytihlimbdgipdeaa.NamL Go.Proofs.YtihlimbdgipdeaaW.PrintWords Go.Proofs.YtihlimbdgipdeaaW.PrintLast

theorem fold_up {a : Int} (h0 : 65 ≤ a) (h1 : a ≤ 90) : name_Fold.f a = some (a + 32) := by
  unfold name_Fold.f
  rw [if_pos h0, if_pos h1]
  congr 1
  omega
theorem fold_same {a : Int} (h0 : 0 ≤ a) (h : ¬ (65 ≤ a ∧ a ≤ 90)) : name_Fold.f a = some a := by
  unfold name_Fold.f
  by_cases h1 : a ≥ 65
  · rw [if_pos h1, if_neg (by omega)]
  · rw [if_neg h1]
theorem NameFold : bolterlaw02_NameFold.Pure := by
  intro a ha
  have ⟨a0, a1⟩ := u8b ha
  obtain ⟨K, hK⟩ := awake_ev
  dsimp only at hK
  refine ⟨K + 1, ?_⟩
  have up : 65 ≤ a → a ≤ 90 → bolterlaw02_NameFold.j0 (K + 1) a a true = some true := by
    intro h0 h1
    simp only [bolterlaw02_NameFold.j0]
    rw [if_pos trivial, fold_up h0 h1, Option.bind_some, if_pos (by omega), show (a + 32) % 256 = a + 32 by omega, fold_same (by omega) (by omega), Option.bind_some]
    simp
  have same : ¬ (65 ≤ a ∧ a ≤ 90) → bolterlaw02_NameFold.j0 (K + 1) a a false = some true := by
    intro h
    simp only [bolterlaw02_NameFold.j0]
    rw [if_neg (by decide), fold_same a0 h, Option.bind_some, if_pos rfl, Option.bind_some]
    simp
  unfold bolterlaw02_NameFold.f
  rw [hK _ (by omega), Option.bind_some, if_pos rfl]
  by_cases h0 : a ≥ 65
  · rw [if_pos h0]
    by_cases h1 : a ≤ 90
    · rw [decide_eq_true h1]; exact up h0 h1
    · rw [decide_eq_false h1]; exact same (by omega)
  · rw [if_neg h0]; exact same (by omega)

end Go.Proofs.Ytihlimbdgipdeaa.Pure
