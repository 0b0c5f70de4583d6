/- The names on which one stands are those without its first labels, down to the root: of few labels, for every list of numbers. -/
import Derived.Test.YtihlimbdgipdeaaPNamx21
import Derived.Test.YtihlimbdgipdeaaNamW
import Derived.Test.YtihlimbdgipdeaaWSized
set_option linter.unusedVariables false
namespace Go.Proofs.Ytihlimbdgipdeaa.Pure
open Go.RowKit Go.Proofs.Ytihlimbdgipdeaa.PNam Go.Proofs.Ytihlimbdgipdeaa.PBase0 Go.Proofs.Ytihlimbdgipdeaa.Hand Go.Proofs.Ytihlimbdgipdeaa.NamL Go.Proofs.YtihlimbdgipdeaaW.PrintWords Go.Proofs.YtihlimbdgipdeaaW.PrintLast

theorem parent_loop : ∀ (ws : List ByteArray), (∀ w ∈ ws, w ∈ theWords) → ws.length ≤ 12 → ∃ K, ∀ k, K ≤ k → bolterlaw02_NameParent.l0 k (mkB (enc (ws.map B))) ws = some true
  | [], _, _ => by
    obtain ⟨K, hK⟩ := parent_root
    dsimp only at hK
    refine ⟨K + 1, fun k hk => ?_⟩
    obtain ⟨k, rfl⟩ : ∃ m, k = m + 1 := ⟨k - 1, by omega⟩
    simp only [bolterlaw02_NameParent.l0]
    have e : mkB (enc (([] : List ByteArray).map B)) = (⟨#[]⟩ : ByteArray) := rfl
    rw [if_neg (by simp), e, hK _ (by omega), Option.bind_some]
    rw [if_pos (by rw [toList_B]; rfl), if_neg (by decide), toList_B]
    rfl
  | w :: ws, h, hl => by
    have ⟨m1, m2⟩ := make_words (ws := w :: ws) h hl
    have hws : ∀ x ∈ ws, x ∈ theWords := fun x hx => h x (by simp [hx])
    have hl2 : ws.length ≤ 12 := by simp at hl; omega
    have ⟨n1, n2⟩ := make_words (ws := ws) hws hl2
    rw [List.map_cons] at m2
    obtain ⟨K1, h1⟩ := parent_yes m2
    obtain ⟨K2, h2⟩ := below_yes m2 n2
    obtain ⟨K3, h3⟩ := below_yes n2 m2
    obtain ⟨K4, h4⟩ := parent_loop ws hws hl2
    dsimp only at h1 h2 h3
    rw [decide_eq_true (List.suffix_cons _ _)] at h2
    rw [decide_eq_false (fun hs => by have := hs.length_le; simp at this; omega)] at h3
    refine ⟨K1 + K2 + K3 + K4 + 1, fun k hk => ?_⟩
    obtain ⟨k, rfl⟩ : ∃ m, k = m + 1 := ⟨k - 1, by omega⟩
    simp only [bolterlaw02_NameParent.l0]
    rw [if_pos (by simp), List.map_cons, h1 _ (by omega), Option.bind_some, if_pos (by simp; omega)]
    rw [show (w :: ws).drop 1 = ws from rfl, n1, Option.bind_some, if_pos rfl, if_pos rfl]
    rw [h2 _ (by omega), Option.bind_some, if_pos rfl, h3 _ (by omega), Option.bind_some, if_neg (by decide)]
    exact h4 _ (by omega)
theorem NameParent : bolterlaw02_NameParent.Pure := by
  intro ns hm hl hx
  have ⟨⟨K1, h1⟩, hn⟩ := name_ev ns hl hx
  obtain ⟨K2, h2⟩ := words_ev ns hl hx
  obtain ⟨K3, h3⟩ := parent_loop (wordsOf ns) (fun w hw => wordsOf_mem hx hw) (wordsOf_length ns)
  obtain ⟨K, hK⟩ := awake_ev
  dsimp only at h1 h2 hK
  refine ⟨K + K1 + K2 + K3, ?_⟩
  unfold bolterlaw02_NameParent.f
  rw [hK _ (by omega), Option.bind_some, if_pos rfl, h1 _ (by omega), Option.bind_some, h2 _ (by omega), Option.bind_some]
  exact h3 _ (by omega)

end Go.Proofs.Ytihlimbdgipdeaa.Pure
namespace Go.Proofs.Ytihlimbdgipdeaa.PrintWords
open Go.ChangeShapes Go.WideShapes
/-- The row speaks of this word by a short name. -/
theorem sized_ints {H : Type} {enc : TypeId × Value → H} {P : Program} {W : World} {base : Nat} {spare : Nat → Bool} {held : Bool} {t e : TypeId} {k : IntKind} {a : Option Addr} {len cap : Nat} {d : DataW H} {ps : List MemPlace} {ts : List TypeId} {ds : List (DataW H)} {j : Nat}
    (hsz : (DataW.weightsEach P ts ds).all (· ≤ reachBytes) = true) (ht : ts[j]? = some t) (hd : ds[j]? = some d) (hu : P.underlying t = some (.slice e)) (he : P.underlying e = some (.int k)) (hc : P.cellsOf e = 1) {B : Nat} (hB : P.bytesOf e = B)
    (h : DataW.Trod enc P W base spare held t (.slice a len cap) d ps) : len * B ≤ 140737488351232 :=
  Go.Proofs.YtihlimbdgipdeaaW.PrintWords.sized_ints hsz ht hd hu he hc hB h
end Go.Proofs.Ytihlimbdgipdeaa.PrintWords
