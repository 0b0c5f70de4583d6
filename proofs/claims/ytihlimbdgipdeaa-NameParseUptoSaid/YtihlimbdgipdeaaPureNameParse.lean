import Derived.Test.YtihlimbdgipdeaaPParx21
import Derived.Test.YtihlimbdgipdeaaNamQ
set_option linter.unusedVariables false
namespace Go.Proofs.Ytihlimbdgipdeaa.Pure
open Go.RowKit Go.Proofs.Ytihlimbdgipdeaa.PPar Go.Proofs.Ytihlimbdgipdeaa.PNam Go.Proofs.Ytihlimbdgipdeaa.PBase0 Go.Proofs.Ytihlimbdgipdeaa.Hand Go.Proofs.Ytihlimbdgipdeaa.NamL Go.Proofs.YtihlimbdgipdeaaW.PrintWords Go.Proofs.YtihlimbdgipdeaaW.PrintLast

theorem parse_yes (k : Nat) (s n t : ByteArray) (ha : bolterlaw02_awake.f k = some true) (h1 : name_Parse.f k s = some (n, true)) (h2 : name_May.f k n = some true) (h3 : name_Text.f k n = some t) (e : B s = B t) :
    bolterlaw02_NameParse.f k s = some true := by
  unfold bolterlaw02_NameParse.f
  rw [ha, Option.bind_some, if_pos rfl, h1, Option.bind_some]
  dsimp only
  rw [if_pos rfl, h2, Option.bind_some, if_pos rfl, h3, Option.bind_some, toList_beq, decide_eq_true (B_inj e).symm]
theorem parse_no (k : Nat) (s : ByteArray) (ls : List ByteArray) (is : Bool) (t : ByteArray) (ha : bolterlaw02_awake.f k = some true) (h1 : name_Parse.f k s = some ((⟨#[]⟩ : ByteArray), false)) (h2 : bolterlaw02_labels.f k s = some (ls, is))
    (h3 : is = true → name_Text.f k s = some t) (h4 : is = true → bolterlaw02_text.f k ls = some t) : bolterlaw02_NameParse.f k s = some true := by
  unfold bolterlaw02_NameParse.f
  rw [ha, Option.bind_some, if_pos rfl, h1, Option.bind_some]
  dsimp only
  rw [if_neg Bool.false_ne_true, h2, Option.bind_some, if_pos (by rw [toList_B]; rfl)]
  cases is with
  | false => rw [if_neg Bool.false_ne_true]
  | true => rw [if_pos rfl, h3 rfl, Option.bind_some, h4 rfl, Option.bind_some, beq_self_eq_true]
theorem NameParse (s : ByteArray) (hs : s.size ≤ 1048576) : ∃ k, bolterlaw02_NameParse.f k s = some true := by
  obtain ⟨K, hK⟩ := awake_ev
  obtain ⟨r, ⟨K1, h1⟩, rfl | ⟨n, ms, rfl, hn, he⟩⟩ := parse_ev s (by omega)
  · rcases nm_or s with ⟨ls, h⟩ | h
    · obtain ⟨K2, h2⟩ := law_labels_yes h
      obtain ⟨K3, h3⟩ := name_text h
      obtain ⟨K4, h4⟩ := law_text h
      exact ⟨K + K1 + K2 + K3 + K4, parse_no _ s _ true _ (hK _ (by omega)) (h1 _ (by omega)) (h2 _ (by omega)) (fun _ => h3 _ (by omega)) (fun _ => h4 _ (by omega))⟩
    · obtain ⟨K2, h2⟩ := law_labels_no h
      exact ⟨K + K1 + K2, parse_no _ s _ false s (hK _ (by omega)) (h1 _ (by omega)) (h2 _ (by omega)) (fun h => by cases h) (fun h => by cases h)⟩
  · obtain ⟨K2, h2⟩ := may_yes hn
    obtain ⟨K3, h3⟩ := name_text hn
    exact ⟨K + K1 + K2 + K3, parse_yes _ s n _ (hK _ (by omega)) (h1 _ (by omega)) (h2 _ (by omega)) (h3 _ (by omega)) he⟩
end Go.Proofs.Ytihlimbdgipdeaa.Pure
