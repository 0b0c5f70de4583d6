/- The words and names that the statements are about, and lists of texts held against each other. -/
import Derived.Test.YtihlimbdgipdeaaNamM
import Derived.Test.YtihlimbdgipdeaaPNamx20
import Derived.Test.YtihlimbdgipdeaaPNamx22
set_option linter.unusedVariables false
namespace Go.Proofs.Ytihlimbdgipdeaa.NamL
open Go.RowKit Go.Proofs.Ytihlimbdgipdeaa.PNam Go.Proofs.Ytihlimbdgipdeaa.PBase0 Go.Proofs.Ytihlimbdgipdeaa.Hand Go.Proofs.YtihlimbdgipdeaaW.PrintWords Go.Proofs.YtihlimbdgipdeaaW.PrintLast

def theWords : List ByteArray := [(⟨#[97]⟩ : ByteArray), (⟨#[98]⟩ : ByteArray), (⟨#[99]⟩ : ByteArray), (⟨#[119, 119, 119]⟩ : ByteArray), (⟨#[101, 120]⟩ : ByteArray), (⟨#[111, 114, 103]⟩ : ByteArray), (⟨#[42]⟩ : ByteArray), (⟨#[114, 112, 122, 45, 105, 112]⟩ : ByteArray)]
def wordAt (n : Int) : ByteArray := rdOf ByteArray.empty theWords (Int.tmod n 8)
def wordsOf (ns : List Int) : List ByteArray := (ns.take 12).map wordAt
theorem words_ok : ∀ w ∈ theWords, (1 ≤ (B w).length ∧ (B w).length ≤ 6) ∧ (B w).map foldB = B w := by decide +kernel
theorem wordAt_mem (n : Int) (h0 : 0 ≤ n) : wordAt n ∈ theWords := by
  have h1 : 0 ≤ Int.tmod n 8 := Int.tmod_nonneg _ h0
  have h2 : Int.tmod n 8 < 8 := Int.tmod_lt_of_pos _ (by decide)
  have hl : (Int.tmod n 8).toNat < theWords.length := by show _ < 8; omega
  unfold wordAt rdOf
  rw [List.getD_eq_getElem?_getD, List.getElem?_eq_getElem hl, Option.getD_some]
  exact List.getElem_mem hl
theorem words_loop (ns : List Int) (hl : ns.length * 1 ≤ 140737488351232) (hx : ∀ x ∈ ns, (Lit.int .u8 x).wf = true) (d : Nat) :
    ∀ (k i : Nat), i + d = 12 → d + 1 < k → i ≤ ns.length → bolterlaw02_Words.l0 k ((ns.take i).map wordAt) ns (ns.length : Int) i = some (wordsOf ns) := by
  induction d with
  | zero =>
    intro k i hd hk hi
    obtain ⟨k, rfl⟩ : ∃ m, k = m + 1 := ⟨k - 1, by omega⟩
    obtain rfl : i = 12 := by omega
    simp only [bolterlaw02_Words.l0]
    by_cases h : ((12 : Nat) : Int) < (ns.length : Int)
    · rw [if_pos h, if_pos (by omega), if_pos h, if_pos (by rfl)]; rfl
    · rw [if_neg h]; rfl
  | succ d ih =>
    intro k i hd hk hi
    obtain ⟨k, rfl⟩ : ∃ m, k = m + 1 := ⟨k - 1, by omega⟩
    simp only [bolterlaw02_Words.l0]
    by_cases h : i < ns.length
    · have ⟨n0, n1⟩ := u8b (hx _ (List.getElem_mem h))
      have hr : rd ns (i : Int) = ns[i] := by simp [rd, List.getD_eq_getElem?_getD, h]
      have h1 : 0 ≤ Int.tmod ns[i] 8 := Int.tmod_nonneg _ n0
      have h2 : Int.tmod ns[i] 8 < 8 := Int.tmod_lt_of_pos _ (by decide)
      rw [if_pos (by omega), if_pos (by omega), if_pos (by omega), if_neg (by omega), Option.bind_some, hr, if_pos h1, if_pos (by simpa using h2), if_pos (by rw [List.length_map, List.length_take]; omega), w64 (n := (i : Int) + 1) (by omega) (by omega)]
      have step := ih k (i + 1) (by omega) (by omega) (by omega)
      rw [List.take_succ_eq_append_getElem h, List.map_append] at step
      exact step
    · rw [if_neg (by omega)]
      congr 1
      unfold wordsOf
      rw [List.take_of_length_le (by omega), List.take_of_length_le (by omega)]
theorem words_ev (ns : List Int) (hl : ns.length * 1 ≤ 140737488351232) (hx : ∀ x ∈ ns, (Lit.int .u8 x).wf = true) : Ev (fun k => bolterlaw02_Words.f k ns) (wordsOf ns) := by
  refine Ev.of (k := 20) (fun k => bolterlaw02_Words.mono ns k) ?_
  exact words_loop ns hl hx 12 20 0 rfl (by omega) (by omega)
theorem wordsOf_mem {ns : List Int} (hx : ∀ x ∈ ns, (Lit.int .u8 x).wf = true) {w : ByteArray} (h : w ∈ wordsOf ns) : w ∈ theWords := by
  obtain ⟨n, hn, rfl⟩ := List.mem_map.1 h
  exact wordAt_mem n (u8b (hx n (List.mem_of_mem_take hn))).1
def lbs (ns : List Int) : Lb := (wordsOf ns).map B
theorem wordsOf_length (ns : List Int) : (wordsOf ns).length ≤ 12 := by unfold wordsOf; rw [List.length_map, List.length_take]; omega
theorem fold_words {ws : List ByteArray} (h : ∀ w ∈ ws, w ∈ theWords) : ws.map foldL = ws.map B := by
  apply List.map_congr_left
  intro w hw
  exact (words_ok w (h w hw)).2
theorem enc_words : ∀ {ws : List ByteArray}, (∀ w ∈ ws, w ∈ theWords) → (enc (ws.map B)).length ≤ 7 * ws.length
  | [], _ => by simp [enc]
  | w :: ws, h => by
    have := enc_words (ws := ws) (fun x hx => h x (by simp [hx]))
    have h1 := (words_ok w (h w (by simp))).1
    rw [List.map_cons, enc_cons, List.length_append, encL_length, List.length_cons]
    omega
theorem make_words {ws : List ByteArray} (h : ∀ w ∈ ws, w ∈ theWords) (hl : ws.length ≤ 12) :
    name_Make.f ws = some (mkB (enc (ws.map B)), true) ∧ Nm (mkB (enc (ws.map B))) (ws.map B) := by
  have e := fold_words h
  have hlen := enc_words h
  have := make_nm (ls := ws) (fun w hw => by have := (words_ok w (h w hw)).1; unfold Ok; omega) (by rw [e]; omega)
  rw [e] at this
  exact this
theorem name_ev (ns : List Int) (hl : ns.length * 1 ≤ 140737488351232) (hx : ∀ x ∈ ns, (Lit.int .u8 x).wf = true) :
    Ev (fun k => bolterlaw02_Name.f k ns) (mkB (enc (lbs ns))) ∧ Nm (mkB (enc (lbs ns))) (lbs ns) := by
  have ⟨m1, m2⟩ := make_words (ws := wordsOf ns) (fun w hw => wordsOf_mem hx hw) (wordsOf_length ns)
  refine ⟨?_, m2⟩
  obtain ⟨K, hK⟩ := words_ev ns hl hx
  dsimp only at hK
  refine ⟨K, fun k hk => ?_⟩
  show bolterlaw02_Name.f k ns = _
  unfold bolterlaw02_Name.f
  rw [hK k hk, Option.bind_some, m1, Option.bind_some]
  rfl

theorem same_loop (xs ys : List ByteArray) (hl : xs.length = ys.length) (hb : xs.length ≤ 140737488351232) (d : Nat) :
    ∀ (k i : Nat), xs.length = i + d → d < k → bolterlaw02_same.l0 k xs ys (xs.length : Int) i = some (decide (xs.drop i = ys.drop i)) := by
  induction d with
  | zero =>
    intro k i hd hk
    obtain ⟨k, rfl⟩ : ∃ m, k = m + 1 := ⟨k - 1, by omega⟩
    simp only [bolterlaw02_same.l0]
    rw [if_neg (by omega), List.drop_of_length_le (by omega), List.drop_of_length_le (by omega)]
    rfl
  | succ d ih =>
    intro k i hd hk
    obtain ⟨k, rfl⟩ : ∃ m, k = m + 1 := ⟨k - 1, by omega⟩
    simp only [bolterlaw02_same.l0]
    have hx : i < xs.length := by omega
    have hy : i < ys.length := by omega
    have ex : rdOf ByteArray.empty xs (i : Int) = xs[i] := by simp [rdOf, List.getD_eq_getElem?_getD, hx]
    have ey : rdOf ByteArray.empty ys (i : Int) = ys[i] := by simp [rdOf, List.getD_eq_getElem?_getD, hy]
    rw [if_pos (by omega), if_pos (by omega), if_pos (by omega), if_pos (by omega), ex, ey, List.drop_eq_getElem_cons hx, List.drop_eq_getElem_cons hy]
    by_cases e : xs[i] = ys[i]
    · rw [if_pos ((toList_iff _ _).2 e), w64 (n := (i : Int) + 1) (by omega) (by omega)]
      have := ih k (i + 1) (by omega) (by omega)
      rw [show ((i : Int) + 1) = ((i + 1 : Nat) : Int) from rfl, this]
      congr 1
      rw [decide_eq_decide, e]
      exact ⟨fun h => by rw [h], fun h => (List.cons.inj h).2⟩
    · rw [if_neg (fun h => e ((toList_iff _ _).1 h))]
      congr 1
      symm
      rw [decide_eq_false_iff_not]
      intro h
      exact e (List.cons.inj h).1
theorem same_ev (xs ys : List ByteArray) (hb : xs.length ≤ 140737488351232) : Ev (fun k => bolterlaw02_same.f k xs ys) (decide (xs = ys)) := by
  refine Ev.of (k := xs.length + 1) (fun k => bolterlaw02_same.mono xs ys k) ?_
  unfold bolterlaw02_same.f
  by_cases hl : (xs.length : Int) = (ys.length : Int)
  · rw [if_pos hl]
    have := same_loop xs ys (by omega) hb xs.length (xs.length + 1) 0 (by omega) (by omega)
    simpa using this
  · rw [if_neg hl]
    congr 1
    symm
    rw [decide_eq_false_iff_not]
    intro h
    exact hl (by rw [h])
end Go.Proofs.Ytihlimbdgipdeaa.NamL
