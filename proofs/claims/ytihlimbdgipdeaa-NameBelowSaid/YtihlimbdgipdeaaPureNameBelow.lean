/- A name stands below those in whose labels it ends, and below no others; what is ahead of them is left, and joined again: of few labels, for all lists of numbers. -/
import Derived.Test.YtihlimbdgipdeaaPNamx28
import Derived.Test.YtihlimbdgipdeaaNamW
import Derived.Test.YtihlimbdgipdeaaWSized
set_option linter.unusedVariables false
namespace Go.Proofs.Ytihlimbdgipdeaa.Pure
open Go.RowKit Go.Proofs.Ytihlimbdgipdeaa.PNam Go.Proofs.Ytihlimbdgipdeaa.PBase0 Go.Proofs.Ytihlimbdgipdeaa.Hand Go.Proofs.Ytihlimbdgipdeaa.NamL Go.Proofs.YtihlimbdgipdeaaW.PrintWords Go.Proofs.YtihlimbdgipdeaaW.PrintLast

theorem below_j1_no (k : Nat) (a b : ByteArray) (xs ys : List ByteArray) : bolterlaw02_NameBelow.j1 (k + 1) a b xs ys false (⟨#[]⟩ : ByteArray) false = some true := by
  simp only [bolterlaw02_NameBelow.j1]
  rw [if_neg (by decide), if_neg (by decide), toList_B]
  rfl
theorem mapB_inj {xs ys : List ByteArray} : xs.map B = ys.map B ↔ xs = ys := by
  constructor
  · intro h
    have := congrArg (List.map mkB) h
    simpa [Function.comp_def, mkB_B] using this
  · intro h; rw [h]
theorem map_mkB (xs : List ByteArray) : (xs.map B).map mkB = xs := by simp [Function.comp_def, mkB_B]
theorem NameBelow : bolterlaw02_NameBelow.Pure := by
  intro ns ms hm1 hl1 hx1 hm2 hl2 hx2
  obtain ⟨K, hK⟩ := awake_ev
  have ⟨⟨K1, h1⟩, ha⟩ := name_ev ns hl1 hx1
  have ⟨⟨K2, h2⟩, hb⟩ := name_ev ms hl2 hx2
  obtain ⟨K3, h3⟩ := words_ev ns hl1 hx1
  obtain ⟨K4, h4⟩ := words_ev ms hl2 hx2
  have lx := wordsOf_length ns
  have ly := wordsOf_length ms
  dsimp only at hK h1 h2 h3 h4
  unfold lbs at ha hb h1 h2
  generalize hxs : wordsOf ns = xs at *
  generalize hys : wordsOf ms = ys at *
  generalize hna : mkB (enc (xs.map B)) = a at *
  generalize hnb : mkB (enc (ys.map B)) = b at *
  obtain ⟨K5, h5⟩ := below_yes ha hb
  dsimp only at h5
  have suf : xs.length ≥ ys.length → (decide (xs.drop (xs.length - ys.length) = ys) = decide (ys.map B <:+ xs.map B)) := by
    intro hl
    rw [decide_eq_decide]
    constructor
    · intro h
      rw [← h, List.map_drop]
      exact List.drop_suffix _ _
    · rintro ⟨t, ht⟩
      have : (xs.map B).drop (xs.length - ys.length) = ys.map B := by
        rw [← ht]
        have tl : t.length = xs.length - ys.length := by
          have := congrArg List.length ht
          simp at this; omega
        rw [← tl, List.drop_left]
      rw [← List.map_drop] at this
      exact mapB_inj.1 this
  by_cases hs : ys.map B <:+ xs.map B
  · have hle : ys.length ≤ xs.length := by have := hs.length_le; simpa using this
    obtain ⟨fs, hfs⟩ := hs
    have hfl : fs.length = xs.length - ys.length := by
      have := congrArg List.length hfs
      simp at this; omega
    have ha' := ha
    rw [← hfs] at ha'
    obtain ⟨K6, h6⟩ := strip_yes ha' hb
    have hf := ha'.front
    have hsz : (mkB (enc fs)).size + b.size ≤ 254 := by
      have e1 := ha'.length
      have e2 := hb.length
      have e3 := ha.2.2.2
      rw [enc_append, List.length_append] at e1
      rw [mkB_size]; omega
    obtain ⟨K7, h7⟩ := join_yes hf hb hsz
    obtain ⟨K8, h8⟩ := labels_yes hf
    have hj : mkB (enc fs) ++ b = a := (hf.join hb hsz).inj ha'
    have htk : fs.map mkB = xs.take (xs.length - ys.length) := by
      have : fs = (xs.take (xs.length - ys.length)).map B := by rw [List.map_take, ← hfs, ← hfl, List.take_left]
      rw [this, map_mkB]
    obtain ⟨K9, h9⟩ := same_ev (fs.map mkB) (xs.take (xs.length - ys.length)) (by rw [List.length_map]; omega)
    obtain ⟨K10, h10⟩ := same_ev (xs.drop (xs.length - ys.length)) ys (by rw [List.length_drop]; omega)
    rw [decide_eq_true htk] at h9
    rw [suf hle, decide_eq_true ⟨fs, hfs⟩] at h10
    rw [decide_eq_true ⟨fs, hfs⟩] at h5
    dsimp only at h6 h7 h8 h9 h10
    refine ⟨K + K1 + K2 + K3 + K4 + K5 + K6 + K7 + K8 + K9 + K10 + 2, ?_⟩
    generalize hk : K + K1 + K2 + K3 + K4 + K5 + K6 + K7 + K8 + K9 + K10 = k
    have jj : bolterlaw02_NameBelow.j0 (k + 2) a b xs ys true = some true := by
      simp only [bolterlaw02_NameBelow.j0]
      rw [h6 _ (by omega), Option.bind_some, h5 _ (by omega), Option.bind_some, if_neg (by decide)]
      simp only [bolterlaw02_NameBelow.j1]
      rw [if_neg (by decide), if_pos trivial, h7 _ (by omega), Option.bind_some, h8 _ (by omega), Option.bind_some, if_pos rfl, hj, if_pos rfl]
      rw [w64 (n := (xs.length : Int) - (ys.length : Int)) (by omega) (by omega), if_pos (by omega), if_pos (by omega), show ((xs.length : Int) - (ys.length : Int)).toNat = xs.length - ys.length by omega, h9 _ (by omega), Option.bind_some]
    unfold bolterlaw02_NameBelow.f
    rw [hK _ (by omega), Option.bind_some, if_pos rfl, h1 _ (by omega), Option.bind_some, h2 _ (by omega), Option.bind_some, h3 _ (by omega), Option.bind_some, h4 _ (by omega), Option.bind_some]
    have hmx : mx 0 (wrap64 ((xs.length : Int) - (ys.length : Int))) = (xs.length : Int) - (ys.length : Int) := by
      rw [w64 (by omega) (by omega)]; unfold mx; omega
    rw [if_pos (by omega), hmx, if_pos (by omega), if_pos (by omega), show ((xs.length : Int) - (ys.length : Int)).toNat = xs.length - ys.length by omega, h10 _ (by omega), Option.bind_some]
    exact jj
  · rw [decide_eq_false hs] at h5
    obtain ⟨K6, h6⟩ := strip_no (a := a) (b := b) ⟨K5, h5⟩
    obtain ⟨K10, h10⟩ := same_ev (xs.drop (xs.length - ys.length)) ys (by rw [List.length_drop]; omega)
    dsimp only at h6 h10
    refine ⟨K + K1 + K2 + K3 + K4 + K5 + K6 + K10 + 2, ?_⟩
    generalize hk : K + K1 + K2 + K3 + K4 + K5 + K6 + K10 = k
    have jj : bolterlaw02_NameBelow.j0 (k + 2) a b xs ys false = some true := by
      simp only [bolterlaw02_NameBelow.j0]
      rw [h6 _ (by omega), Option.bind_some, h5 _ (by omega), Option.bind_some, if_neg (by decide)]
      exact below_j1_no k a b xs ys
    unfold bolterlaw02_NameBelow.f
    rw [hK _ (by omega), Option.bind_some, if_pos rfl, h1 _ (by omega), Option.bind_some, h2 _ (by omega), Option.bind_some, h3 _ (by omega), Option.bind_some, h4 _ (by omega), Option.bind_some]
    by_cases hl : (xs.length : Int) ≥ (ys.length : Int)
    · have hmx : mx 0 (wrap64 ((xs.length : Int) - (ys.length : Int))) = (xs.length : Int) - (ys.length : Int) := by
        rw [w64 (by omega) (by omega)]; unfold mx; omega
      rw [if_pos hl, hmx, if_pos (by omega), if_pos (by omega), show ((xs.length : Int) - (ys.length : Int)).toNat = xs.length - ys.length by omega, h10 _ (by omega), suf (by omega), decide_eq_false hs, Option.bind_some]
      exact jj
    · rw [if_neg hl]; exact jj

end Go.Proofs.Ytihlimbdgipdeaa.Pure
namespace Go.Proofs.Ytihlimbdgipdeaa.PrintWords
open Go.ChangeShapes Go.WideShapes
/-- The row speaks of this word by a short name. -/
theorem sized_ints {H : Type} {enc : TypeId × Value → H} {P : Program} {W : World} {base : Nat} {spare : Nat → Bool} {held : Bool} {t e : TypeId} {k : IntKind} {a : Option Addr} {len cap : Nat} {d : DataW H} {ps : List MemPlace} {ts : List TypeId} {ds : List (DataW H)} {j : Nat}
    (hsz : (DataW.weightsEach P ts ds).all (· ≤ reachBytes) = true) (ht : ts[j]? = some t) (hd : ds[j]? = some d) (hu : P.underlying t = some (.slice e)) (he : P.underlying e = some (.int k)) (hc : P.cellsOf e = 1) {B : Nat} (hB : P.bytesOf e = B)
    (h : DataW.Trod enc P W base spare held t (.slice a len cap) d ps) : len * B ≤ 140737488351232 :=
  Go.Proofs.YtihlimbdgipdeaaW.PrintWords.sized_ints hsz ht hd hu he hc hB h
end Go.Proofs.Ytihlimbdgipdeaa.PrintWords
