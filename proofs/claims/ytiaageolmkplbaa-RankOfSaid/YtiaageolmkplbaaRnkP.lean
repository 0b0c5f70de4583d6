/- The triggers that the statements make, in plain words: a prefix of four or sixteen bytes, or a name of at most five words. -/
import Derived.Test.YtiaageolmkplbaaNamA
import Derived.Test.YtiaageolmkplbaaRnkB
set_option linter.unusedVariables false
namespace Go.Proofs.Ytiaageolmkplbaa.NamL
open Go.RowKit Go.Proofs.Ytiaageolmkplbaa.PBase0 Go.Proofs.Ytiaageolmkplbaa.Hand Go.Proofs.YtiaageolmkplbaaW.PrintWords Go.Proofs.YtiaageolmkplbaaW.PrintLast

def theWords : List ByteArray := [(⟨#[97]⟩ : ByteArray), (⟨#[98]⟩ : ByteArray), (⟨#[119, 119, 119]⟩ : ByteArray), (⟨#[101, 120]⟩ : ByteArray), (⟨#[111, 114, 103]⟩ : ByteArray)]
theorem words_ok : ∀ w ∈ theWords, (1 ≤ (B w).length ∧ (B w).length ≤ 6) ∧ (B w).map foldB = B w := by decide +kernel
theorem fold_words {ws : List ByteArray} (h : ∀ w ∈ ws, w ∈ theWords) : ws.map foldL = ws.map B := by
  apply List.map_congr_left
  intro w hw
  exact (words_ok w (h w hw)).2
theorem enc_words : ∀ {ws : List ByteArray}, (∀ w ∈ ws, w ∈ theWords) → (enc (ws.map B)).length ≤ 7 * ws.length
  | [], _ => by simp [enc]
  | w :: ws, h => by
    have := enc_words (ws := ws) (fun x hx => h x (by simp [hx]))
    have h1 := (words_ok w (h w (by simp))).1
    rw [List.map_cons, enc_cons, List.length_append, encL_length, List.length_cons]
    omega
theorem make_words {ws : List ByteArray} (h : ∀ w ∈ ws, w ∈ theWords) (hl : ws.length ≤ 12) :
    name_Make.f ws = some (mkB (enc (ws.map B)), true) ∧ Nm (mkB (enc (ws.map B))) (ws.map B) := by
  have e := fold_words h
  have hlen := enc_words h
  have := make_nm (ls := ws) (fun w hw => by have := (words_ok w (h w hw)).1; unfold Ok; omega) (by rw [e]; omega)
  rw [e] at this
  exact this
theorem count_ev {s : ByteArray} {ls : Lb} (h : Nm s ls) : Ev (fun k => name_Count.f k s) (ls.length : Int) := by
  obtain ⟨K, hK⟩ := labels_yes h
  refine ⟨K, fun k hk => ?_⟩
  show name_Count.f k s = _
  have := hK k hk
  dsimp only at this
  unfold name_Count.f
  rw [this, Option.bind_some, List.length_map]
theorem rd_get (l : List Int) (j : Nat) (h : j < l.length) : rd l (j : Int) = l[j] := by simp [rd, List.getD, h]
theorem rdOf_mem (ws : List ByteArray) (i : Int) (h0 : 0 ≤ i) (h1 : i < (ws.length : Int)) : rdOf ByteArray.empty ws i ∈ ws := by
  have hl : i.toNat < ws.length := by omega
  unfold rdOf
  rw [List.getD_eq_getElem?_getD, List.getElem?_eq_getElem hl, Option.getD_some]
  exact List.getElem_mem hl

/-! ### addresses -/
theorem addr_loop (ns : List Int) (hl : ns.length * 1 ≤ 140737488351232) (hx : ∀ x ∈ ns, (Lit.int .u8 x).wf = true) (d : Nat) :
    ∀ (k i : Nat) (x5 : List Int), (x5.length = 4 ∨ x5.length = 16) → ns.length = i + d → d < k → ∃ r, bolterlaw12_Addr.l0 k x5 ns (ns.length : Int) i = some r ∧ r.size = x5.length := by
  induction d with
  | zero =>
    intro k i x5 h5 hd hk
    obtain ⟨k, rfl⟩ : ∃ m, k = m + 1 := ⟨k - 1, by omega⟩
    refine ⟨strOfNums x5, ?_, strOfNums_size x5⟩
    simp only [bolterlaw12_Addr.l0]
    rw [if_neg (by omega)]
  | succ d ih =>
    intro k i x5 h5 hd hk
    obtain ⟨k, rfl⟩ : ∃ m, k = m + 1 := ⟨k - 1, by omega⟩
    have hi : i < ns.length := by omega
    have ⟨n0, n1⟩ := u8b (hx _ (List.getElem_mem hi))
    have hr : rd ns (i : Int) = ns[i] := rd_get ns i hi
    simp only [bolterlaw12_Addr.l0]
    rw [if_pos (by omega), if_pos (by omega), if_pos (by omega), hr, w64 (n := (i : Int) + 1) (by omega) (by omega)]
    by_cases h : (i : Int) < (x5.length : Int)
    · rw [if_pos h, if_neg (by omega)]
      simp only [Option.bind_some]
      have m0 : 0 ≤ Int.tmod ns[i] 6 := Int.tmod_nonneg _ n0
      have m1 : Int.tmod ns[i] 6 < 6 := Int.tmod_lt_of_pos _ (by decide)
      rw [w64 (n := (i : Int) * 7) (by omega) (by omega)]
      have q0 : 0 ≤ Int.tmod ((i : Int) * 7) (x5.length : Int) := Int.tmod_nonneg _ (by omega)
      have q1 : Int.tmod ((i : Int) * 7) (x5.length : Int) < (x5.length : Int) := Int.tmod_lt_of_pos _ (by omega)
      rw [if_pos m0, if_pos (by simpa using m1), if_pos q0, if_pos q1]
      obtain ⟨r, h1, h2⟩ := ih k (i + 1) (x5.set (Int.tmod ((i : Int) * 7) (x5.length : Int)).toNat (rd [0, 1, 128, 255, 192, ns[i]] (Int.tmod ns[i] 6))) (by rw [List.length_set]; exact h5) (by omega) (by omega)
      exact ⟨r, h1, by rw [h2, List.length_set]⟩
    · rw [if_neg h]
      exact ih k (i + 1) x5 h5 (by omega) (by omega)
theorem addr_ev (six : Bool) (ns : List Int) (hl : ns.length * 1 ≤ 140737488351232) (hx : ∀ x ∈ ns, (Lit.int .u8 x).wf = true) :
    ∃ r, Ev (fun k => bolterlaw12_Addr.f k six ns) r ∧ (r.size = 4 ∨ r.size = 16) := by
  cases six with
  | true =>
    obtain ⟨r, h1, h2⟩ := addr_loop ns hl hx ns.length (ns.length + 1) 0 (List.replicate 16 0) (by simp) (by omega) (by omega)
    refine ⟨r, Ev.of (k := ns.length + 2) (fun k => bolterlaw12_Addr.mono true ns k) ?_, by rw [h2]; simp⟩
    unfold bolterlaw12_Addr.f
    rw [if_pos (by decide), if_pos rfl, if_pos (by decide)]
    simp only [bolterlaw12_Addr.j0]
    exact h1
  | false =>
    obtain ⟨r, h1, h2⟩ := addr_loop ns hl hx ns.length (ns.length + 1) 0 (List.replicate 4 0) (by simp) (by omega) (by omega)
    refine ⟨r, Ev.of (k := ns.length + 2) (fun k => bolterlaw12_Addr.mono false ns k) ?_, by rw [h2]; simp⟩
    unfold bolterlaw12_Addr.f
    rw [if_pos (by decide), if_neg (by decide)]
    simp only [bolterlaw12_Addr.j0]
    exact h1

/-! ### triggers -/
/-- A trigger's length is known, and small. -/
def Trg (nm addr : ByteArray) (n : Int) : Prop := ∃ cnt : Int, Ev (fun k => name_Count.f k nm) cnt ∧ 0 ≤ lenT cnt addr n ∧ lenT cnt addr n ≤ 255 ∧ 0 ≤ cnt
theorem trg_name {nm : ByteArray} {ls : Lb} (h : Nm nm ls) (hl : ls.length ≤ 5) : Trg nm (⟨#[]⟩ : ByteArray) 0 := by
  refine ⟨(ls.length : Int), count_ev h, ?_, ?_, by omega⟩
  · rw [show lenT (ls.length : Int) (⟨#[]⟩ : ByteArray) 0 = (ls.length : Int) from if_pos rfl]; omega
  · rw [show lenT (ls.length : Int) (⟨#[]⟩ : ByteArray) 0 = (ls.length : Int) from if_pos rfl]; omega
theorem names_loop (ns : List Int) (kind : Int) (hl : ns.length * 1 ≤ 140737488351232) (hx : ∀ x ∈ ns, (Lit.int .u8 x).wf = true) (d : Nat) :
    ∀ (i : Nat) (acc : List ByteArray), i + d = ns.length → acc.length ≤ 5 → (∀ w ∈ acc, w ∈ theWords) →
      ∃ nm ls, Nm nm ls ∧ ls.length ≤ 5 ∧ ∀ k, d < k → bolterlaw13_Trigger.l0 k acc ns (ns.length : Int) i kind (⟨#[]⟩ : ByteArray) (⟨#[]⟩ : ByteArray) 0 = some (kind, nm, (⟨#[]⟩ : ByteArray), 0) := by
  induction d with
  | zero =>
    intro i acc hd ha hw
    by_cases h0 : acc.length = 0
    · obtain rfl := List.length_eq_zero_iff.1 h0
      have one : ∀ w ∈ [(⟨#[97]⟩ : ByteArray)], w ∈ theWords := by intro w hw; rw [List.mem_singleton.1 hw]; exact List.mem_cons_self ..
      obtain ⟨m1, m2⟩ := make_words one (by decide)
      obtain ⟨z1, z2⟩ := make_words hw (by decide)
      by_cases hk : kind = 1 ∨ kind = 4
      · refine ⟨_, _, m2, by decide, fun k hk1 => ?_⟩
        obtain ⟨k, rfl⟩ : ∃ m, k = m + 1 := ⟨k - 1, by omega⟩
        simp only [bolterlaw13_Trigger.l0]
        rw [if_neg (by omega), if_pos (by rfl)]
        rcases hk with hk | hk
        · rw [if_pos hk, m1]; rfl
        · rw [if_neg (by omega), if_pos hk, m1]; rfl
      · refine ⟨_, _, z2, by decide, fun k hk1 => ?_⟩
        obtain ⟨k, rfl⟩ : ∃ m, k = m + 1 := ⟨k - 1, by omega⟩
        simp only [bolterlaw13_Trigger.l0]
        rw [if_neg (by omega), if_pos (by rfl), if_neg (by omega), if_neg (by omega), z1]; rfl
    · obtain ⟨z1, z2⟩ := make_words hw (by omega)
      refine ⟨_, _, z2, by rw [List.length_map]; exact ha, fun k hk1 => ?_⟩
      obtain ⟨k, rfl⟩ : ∃ m, k = m + 1 := ⟨k - 1, by omega⟩
      simp only [bolterlaw13_Trigger.l0]
      rw [if_neg (by omega), if_neg (by omega), z1]; rfl
  | succ d ih =>
    intro i acc hd ha hw
    have hi : i < ns.length := by omega
    have ⟨n0, n1⟩ := u8b (hx _ (List.getElem_mem hi))
    have hr : rd ns (i : Int) = ns[i] := rd_get ns i hi
    have m0 : 0 ≤ Int.tmod ns[i] 5 := Int.tmod_nonneg _ n0
    have m1 : Int.tmod ns[i] 5 < 5 := Int.tmod_lt_of_pos _ (by decide)
    by_cases h5 : acc.length < 5
    · have hmem := rdOf_mem theWords (Int.tmod ns[i] 5) m0 m1
      obtain ⟨nm, ls, q1, q2, q3⟩ := ih (i + 1) (acc ++ [rdOf ByteArray.empty theWords (Int.tmod ns[i] 5)]) (by omega) (by rw [List.length_append]; simp; omega) (by
        intro w hw'
        rcases List.mem_append.1 hw' with h | h
        · exact hw w h
        · rw [List.mem_singleton.1 h]; exact hmem)
      refine ⟨nm, ls, q1, q2, fun k hk => ?_⟩
      obtain ⟨k, rfl⟩ : ∃ m, k = m + 1 := ⟨k - 1, by omega⟩
      simp only [bolterlaw13_Trigger.l0]
      rw [if_pos (by omega), if_pos (by omega), if_pos (by omega), if_pos (by omega), Option.bind_some, hr, if_pos m0, if_pos (by simpa using m1), if_pos (by omega), w64 (n := (i : Int) + 1) (by omega) (by omega)]
      exact q3 k (by omega)
    · obtain ⟨nm, ls, q1, q2, q3⟩ := ih (i + 1) acc (by omega) ha hw
      refine ⟨nm, ls, q1, q2, fun k hk => ?_⟩
      obtain ⟨k, rfl⟩ : ∃ m, k = m + 1 := ⟨k - 1, by omega⟩
      simp only [bolterlaw13_Trigger.l0]
      rw [if_pos (by omega), if_pos (by omega), if_pos (by omega), if_neg (by omega), w64 (n := (i : Int) + 1) (by omega) (by omega)]
      exact q3 k (by omega)
theorem trigger_ev (kind : Int) (ns : List Int) (six : Bool) (bits : Int) (hl : ns.length * 1 ≤ 140737488351232) (hx : ∀ x ∈ ns, (Lit.int .u8 x).wf = true) (hk : (Lit.int .u8 kind).wf = true) (hb : (Lit.int .u8 bits).wf = true) :
    ∃ nm addr n, Trg nm addr n ∧ (¬ (Int.tmod kind 7 = 0 ∨ Int.tmod kind 7 = 3 ∨ Int.tmod kind 7 = 6) → addr = (⟨#[]⟩ : ByteArray) ∧ n = 0) ∧ Ev (fun k => bolterlaw13_Trigger.f k kind ns six bits) (Int.tmod kind 7, nm, addr, n) := by
  have ⟨k0, k1⟩ := u8b hk
  have ⟨b0, b1⟩ := u8b hb
  have t0 : 0 ≤ Int.tmod kind 7 := Int.tmod_nonneg _ k0
  have t1 : Int.tmod kind 7 < 7 := Int.tmod_lt_of_pos _ (by decide)
  have hw : wrap64 (Int.tmod kind 7) = Int.tmod kind 7 := w64 t0 (by omega)
  have step : ∀ k, bolterlaw13_Trigger.f k kind ns six bits = bolterlaw13_Trigger.j0 k ns six bits (decide (Int.tmod kind 7 = 0 ∨ Int.tmod kind 7 = 3 ∨ Int.tmod kind 7 = 6)) (Int.tmod kind 7) (⟨#[]⟩ : ByteArray) (⟨#[]⟩ : ByteArray) 0 := by
    intro k
    unfold bolterlaw13_Trigger.f
    rw [hw]
    generalize Int.tmod kind 7 = m
    by_cases c0 : m = 0
    · rw [if_pos c0, show (m == 0) = decide (m = 0 ∨ m = 3 ∨ m = 6) by simp [c0]]
    · rw [if_neg c0]
      by_cases c3 : m = 3
      · rw [if_pos c3, show (m == 3) = decide (m = 0 ∨ m = 3 ∨ m = 6) by simp [c3]]
      · rw [if_neg c3, show (m == 6) = decide (m = 0 ∨ m = 3 ∨ m = 6) by simp [c0, c3]; rfl]
  generalize Int.tmod kind 7 = m at t0 t1 hw step
  by_cases hc : m = 0 ∨ m = 3 ∨ m = 6
  · obtain ⟨r, ⟨K, hK⟩, hs⟩ := addr_ev six ns hl hx
    dsimp only at hK
    have q : prefix_Cut.f r (Int.tmod (wrap64 bits) (wrap64 ((wrap64 (8 * (r.size : Int))) + 1))) = some (strOfNums (prefix_Cut.lp (8 * (r.size : Int) - Int.tmod bits (8 * (r.size : Int) + 1)).toNat (bytesOf r) (Int.tmod bits (8 * (r.size : Int) + 1))), Int.tmod bits (8 * (r.size : Int) + 1), true) := by
      rw [w64 b0 (by omega), w64 (n := 8 * (r.size : Int)) (by omega) (by omega), w64 (n := 8 * (r.size : Int) + 1) (by omega) (by omega)]
      have y0 : 0 ≤ Int.tmod bits (8 * (r.size : Int) + 1) := Int.tmod_nonneg _ b0
      have y1 : Int.tmod bits (8 * (r.size : Int) + 1) < 8 * (r.size : Int) + 1 := Int.tmod_lt_of_pos _ (by omega)
      unfold prefix_Cut.f
      rw [if_pos ⟨hs, y0, by omega⟩]
    have z0 : 0 ≤ Int.tmod bits (8 * (r.size : Int) + 1) := Int.tmod_nonneg _ b0
    have z1 : Int.tmod bits (8 * (r.size : Int) + 1) < 8 * (r.size : Int) + 1 := Int.tmod_lt_of_pos _ (by omega)
    refine ⟨(⟨#[]⟩ : ByteArray), strOfNums (prefix_Cut.lp (8 * (r.size : Int) - Int.tmod bits (8 * (r.size : Int) + 1)).toNat (bytesOf r) (Int.tmod bits (8 * (r.size : Int) + 1))), Int.tmod bits (8 * (r.size : Int) + 1), ?_, fun h => absurd hc h, K + 1, fun k hk => ?_⟩
    rotate_left
    · show bolterlaw13_Trigger.f k kind ns six bits = _
      rw [step]
      obtain ⟨k, rfl⟩ : ∃ m, k = m + 1 := ⟨k - 1, by omega⟩
      simp only [bolterlaw13_Trigger.j0]
      rw [if_pos (decide_eq_true hc), hK k (by omega), Option.bind_some, q, Option.bind_some, if_neg (by rw [w64 (n := 8 * (r.size : Int)) (by omega) (by omega), w64 (n := 8 * (r.size : Int) + 1) (by omega) (by omega)]; omega)]
    · have hne : ¬ strOfNums (prefix_Cut.lp (8 * (r.size : Int) - Int.tmod bits (8 * (r.size : Int) + 1)).toNat (bytesOf r) (Int.tmod bits (8 * (r.size : Int) + 1))) = (⟨#[]⟩ : ByteArray) := by
        intro e
        have := congrArg ByteArray.size e
        rw [strOfNums_size, prefix_Cut.lp_length, bytesOf_length] at this
        have h0 : (⟨#[]⟩ : ByteArray).size = 0 := rfl
        omega
      refine ⟨0, count_ev Nm.nil, ?_, ?_, Int.le_refl 0⟩
      · unfold lenT; rw [if_neg hne]; exact z0
      · unfold lenT; rw [if_neg hne]; omega
  · obtain ⟨nm, ls, q1, q2, q3⟩ := names_loop ns m hl hx ns.length 0 [] (by omega) (by decide) (by simp)
    refine ⟨nm, (⟨#[]⟩ : ByteArray), 0, trg_name q1 q2, fun _ => ⟨rfl, rfl⟩, ns.length + 2, fun k hk => ?_⟩
    show bolterlaw13_Trigger.f k kind ns six bits = _
    rw [step]
    obtain ⟨k, rfl⟩ : ∃ m, k = m + 1 := ⟨k - 1, by omega⟩
    simp only [bolterlaw13_Trigger.j0]
    rw [if_neg (by simpa using hc)]
    exact q3 k (by omega)
theorem length_at {k : Nat} {kind cnt n : Int} {nm addr : ByteArray} (h : name_Count.f k nm = some cnt) : bolterlaw18_Length.f k kind nm addr n = some (lenT cnt addr n) := by
  unfold bolterlaw18_Length.f lenT
  by_cases e : addr = (⟨#[]⟩ : ByteArray)
  · rw [if_pos e, if_pos (by rw [e]; simp [toList_B, B]), h]; rfl
  · rw [if_neg e, if_neg]
    intro h
    have := full_text e
    rw [h] at this
    exact absurd this (by decide)
end Go.Proofs.Ytiaageolmkplbaa.NamL
