/- Two addresses have as many bits alike as both begin with: for addresses made by all lists of numbers, and any third text. -/
import Derived.Test.YtbnmpopcnpjjdaaPPrex19
import Derived.Test.YtbnmpopcnpjjdaaPreL
import Derived.Test.YtbnmpopcnpjjdaaWSized
namespace Go.Proofs.Ytbnmpopcnpjjdaa.Pure
open Go.RowKit Go.Proofs.Ytbnmpopcnpjjdaa.PPre Go.Proofs.Ytbnmpopcnpjjdaa.PBase0 Go.Proofs.Ytbnmpopcnpjjdaa.Hand Go.Proofs.Ytbnmpopcnpjjdaa.PreL Go.Proofs.YtbnmpopcnpjjdaaW.PrintWords Go.Proofs.YtbnmpopcnpjjdaaW.PrintLast

/-- n is the number of bits that are alike. -/
def Alike (a b : ByteArray) (n : Nat) : Prop := n ≤ 8 * a.size ∧ (∀ i, i < n → prefix_Key.bit a i = prefix_Key.bit b i) ∧ (n = 8 * a.size ∨ prefix_Key.bit a n ≠ prefix_Key.bit b n)
theorem alike_exists (a b : ByteArray) : ∃ n, Alike a b n := by
  have h : ∀ m, m ≤ 8 * a.size → ∃ n, n ≤ m ∧ (∀ i, i < n → prefix_Key.bit a i = prefix_Key.bit b i) ∧ (n = m ∨ prefix_Key.bit a n ≠ prefix_Key.bit b n) := by
    intro m
    induction m with
    | zero => intro _; exact ⟨0, by omega, fun i hi => by omega, .inl rfl⟩
    | succ m ih =>
      intro hm
      obtain ⟨n, h1, h2, h3⟩ := ih (by omega)
      rcases h3 with h3 | h3
      · subst h3
        by_cases e : prefix_Key.bit a n = prefix_Key.bit b n
        · refine ⟨n + 1, by omega, fun i hi => ?_, .inl rfl⟩
          by_cases e2 : i = n
          · subst e2; exact e
          · exact h2 i (by omega)
        · exact ⟨n, by omega, h2, .inr e⟩
      · exact ⟨n, by omega, h2, .inr h3⟩
  obtain ⟨n, h1, h2, h3⟩ := h (8 * a.size) (Nat.le_refl _)
  exact ⟨n, h1, h2, h3⟩
theorem common_loop (a b : ByteArray) (ha : a.size ≤ 16) (hs : a.size = b.size) (n : Nat) (h : Alike a b n) (d : Nat) :
    ∀ (k i : Nat), n = i + d → d < k → prefix_Common.l0 k a b i = some (n : Int) := by
  obtain ⟨h1, h2, h3⟩ := h
  induction d with
  | zero =>
    intro k i hd hk
    obtain ⟨k, rfl⟩ : ∃ m, k = m + 1 := ⟨k - 1, by omega⟩
    obtain rfl : n = i := by omega
    simp only [prefix_Common.l0]
    rw [w64 (n := 8 * (a.size : Int)) (by omega) (by omega)]
    by_cases e : (n : Int) < 8 * (a.size : Int)
    · rw [if_pos e, prefix_Key.bit_eq a n (by omega) (by omega), Option.bind_some, prefix_Key.bit_eq b n (by omega) (by omega), Option.bind_some, if_neg (by omega)]
    · rw [if_neg e]
  | succ d ih =>
    intro k i hd hk
    obtain ⟨k, rfl⟩ : ∃ m, k = m + 1 := ⟨k - 1, by omega⟩
    simp only [prefix_Common.l0]
    rw [w64 (n := 8 * (a.size : Int)) (by omega) (by omega), if_pos (by omega), prefix_Key.bit_eq a i (by omega) (by omega), Option.bind_some, prefix_Key.bit_eq b i (by omega) (by omega), Option.bind_some, if_pos (h2 i (by omega)), w64 (n := (i : Int) + 1) (by omega) (by omega)]
    exact ih k (i + 1) (by omega) (by omega)
theorem address_eq (a : ByteArray) : prefix_Address.f a = some (decide (IsAdr a)) := by
  unfold prefix_Address.f
  by_cases h : (a.size : Int) = 4
  · rw [if_pos h]; congr 1; symm; apply decide_eq_true; show a.size = 4 ∨ a.size = 16; omega
  · rw [if_neg h]; congr 1; rw [Bool.eq_iff_iff, beq_iff_eq, decide_eq_true_iff]; show _ ↔ (a.size = 4 ∨ a.size = 16); omega
theorem common_ev (a b : ByteArray) (hg : IsAdr a) (ha : a.size ≤ 16) (hs : a.size = b.size) (n : Nat) (h : Alike a b n) : Ev (fun k => prefix_Common.f k a b) (n : Int) := by
  refine Ev.of (k := n + 2) (fun k => prefix_Common.mono a b k) ?_
  unfold prefix_Common.f
  rw [address_eq, Option.bind_some, if_pos (decide_eq_true hg)]
  simp only [prefix_Common.j0]
  rw [if_neg (by simp; omega)]
  exact common_loop a b ha hs n h n (n + 1) 0 (by omega) (by omega)
theorem common_ev_no (a b : ByteArray) (hg : IsAdr a) (hs : a.size ≠ b.size) : Ev (fun k => prefix_Common.f k a b) 0 := by
  refine Ev.of (k := 1) (fun k => prefix_Common.mono a b k) ?_
  unfold prefix_Common.f
  rw [address_eq, Option.bind_some, if_pos (decide_eq_true hg)]
  simp only [prefix_Common.j0]
  rw [if_pos (by simp; omega)]
theorem alike_symm {a b : ByteArray} {n : Nat} (hs : a.size = b.size) (h : Alike a b n) : Alike b a n :=
  ⟨by rw [← hs]; exact h.1, fun i hi => (h.2.1 i hi).symm, by rcases h.2.2 with e | e; exact .inl (by rw [← hs]; exact e); exact .inr (fun h => e h.symm)⟩

theorem law_loop (raw a b : ByteArray) (ha : a.size ≤ 16) (hs : a.size = b.size) (n : Nat) (h : Alike a b n) (res : Option Bool) (K : Nat)
    (hj : ∀ k, K ≤ k → bolterlaw12_PrefixCommon.j1 k raw a b n = res) (d : Nat) :
    ∀ (k i : Nat), n = i + d → K + d < k → bolterlaw12_PrefixCommon.l0 k raw a b (sgn a (8 * a.size)) (sgn b (8 * b.size)) i = res := by
  obtain ⟨h1, h2, h3⟩ := h
  have sa := sgn_size a (8 * a.size)
  have sb := sgn_size b (8 * b.size)
  induction d with
  | zero =>
    intro k i hd hk
    obtain ⟨k, rfl⟩ : ∃ m, k = m + 1 := ⟨k - 1, by omega⟩
    obtain rfl : n = i := by omega
    simp only [bolterlaw12_PrefixCommon.l0]
    by_cases e : n < 8 * a.size
    · rw [if_pos (by rw [sa]; omega), if_pos (by omega), if_pos (by rw [sb]; omega), bt_sgn a _ n e, bt_sgn b _ n (by omega), if_neg (by omega)]
      exact hj k (by omega)
    · rw [if_neg (by rw [sa]; omega)]
      exact hj k (by omega)
  | succ d ih =>
    intro k i hd hk
    obtain ⟨k, rfl⟩ : ∃ m, k = m + 1 := ⟨k - 1, by omega⟩
    simp only [bolterlaw12_PrefixCommon.l0]
    have := h2 i (by omega)
    rw [if_pos (by rw [sa]; omega), if_pos (by omega), if_pos (by rw [sb]; omega), bt_sgn a _ i (by omega), bt_sgn b _ i (by omega), if_pos (by omega), w64 (n := (i : Int) + 1) (by omega) (by omega)]
    exact ih k (i + 1) (by omega) (by omega)
theorem PrefixCommon : bolterlaw12_PrefixCommon.Pure := by
  intro six ns ms raw hm1 hl1 hx1 hm2 hl2 hx2 hr
  obtain ⟨a, ⟨K1, h1⟩, hs1⟩ := addr_ev six ns hl1 hx1
  obtain ⟨b, ⟨K2, h2⟩, hs2⟩ := addr_ev six ms hl2 hx2
  have ⟨hg, h16⟩ := addr_good hs1
  have ⟨hgb, hb16⟩ := addr_good hs2
  have hs : a.size = b.size := by rw [hs1, hs2]
  obtain ⟨n, hn⟩ := alike_exists a b
  obtain ⟨K3, h3⟩ := bits_ev a h16
  obtain ⟨K4, h4⟩ := bits_ev b hb16
  obtain ⟨K5, h5⟩ := common_ev a b hg h16 hs n hn
  obtain ⟨K6, h6⟩ := common_ev b a hgb hb16 hs.symm n (alike_symm hs hn)
  obtain ⟨odd, ⟨K7, h7⟩, hodd⟩ : ∃ odd, Ev (fun k => prefix_Common.f k a raw) odd ∧ (a.size ≠ raw.size → odd = 0) := by
    by_cases e : a.size = raw.size
    · obtain ⟨m, hm⟩ := alike_exists a raw
      exact ⟨m, common_ev a raw hg h16 e m hm, fun h => absurd e h⟩
    · exact ⟨0, common_ev_no a raw hg e, fun _ => rfl⟩
  dsimp only at h1 h2 h3 h4 h5 h6 h7
  have hcut : prefix_Cut.f a n = some (cutS a n, (n : Int), true) := by have := hn.1; rw [cut_eq, if_pos ⟨hg, by omega, by omega⟩]
  have hhas : prefix_Has.f (cutS a n) n b = some true := by
    rw [has_cut a b n hg hn.1]; congr 1; rw [decide_eq_true_eq]; exact ⟨hs, hn.2.1⟩
  have hj : ∀ k, K5 + K6 + K7 + 2 ≤ k → bolterlaw12_PrefixCommon.j1 k raw a b n = some true := by
    intro k hk
    obtain ⟨k, rfl⟩ : ∃ m, k = m + 2 := ⟨k - 2, by omega⟩
    simp only [bolterlaw12_PrefixCommon.j1]
    rw [h7 _ (by omega), Option.bind_some, h5 _ (by omega), Option.bind_some, if_pos rfl, h6 _ (by omega), Option.bind_some, if_pos rfl]
    have fin : bolterlaw12_PrefixCommon.j2 (k + 1) a b n false = some true := by
      simp only [bolterlaw12_PrefixCommon.j2]
      rw [if_neg (by decide), hcut, Option.bind_some]
      dsimp only
      rw [hhas, Option.bind_some]
    by_cases e : (raw.size : Int) = (a.size : Int)
    · rw [if_pos e]; exact fin
    · rw [if_neg e, hodd (by omega)]
      exact fin
  refine ⟨K1 + K2 + K3 + K4 + (K5 + K6 + K7 + 2) + n + 1, ?_⟩
  unfold bolterlaw12_PrefixCommon.f
  rw [awake_eq, Option.bind_some, if_pos rfl, h1 _ (by omega), Option.bind_some, h2 _ (by omega), Option.bind_some, h3 _ (by omega), Option.bind_some, h4 _ (by omega), Option.bind_some]
  exact law_loop raw a b h16 hs n hn (some true) _ hj n _ 0 (by omega) (by omega)

end Go.Proofs.Ytbnmpopcnpjjdaa.Pure
namespace Go.Proofs.Ytbnmpopcnpjjdaa.PrintWords
open Go.ChangeShapes Go.WideShapes
/-- The row speaks of this word by a short name. -/
theorem sized_ints {H : Type} {enc : TypeId × Value → H} {P : Program} {W : World} {base : Nat} {spare : Nat → Bool} {held : Bool} {t e : TypeId} {k : IntKind} {a : Option Addr} {len cap : Nat} {d : DataW H} {ps : List MemPlace} {ts : List TypeId} {ds : List (DataW H)} {j : Nat}
    (hsz : (DataW.weightsEach P ts ds).all (· ≤ reachBytes) = true) (ht : ts[j]? = some t) (hd : ds[j]? = some d) (hu : P.underlying t = some (.slice e)) (he : P.underlying e = some (.int k)) (hc : P.cellsOf e = 1) {B : Nat} (hB : P.bytesOf e = B)
    (h : DataW.Trod enc P W base spare held t (.slice a len cap) d ps) : len * B ≤ 140737488351232 :=
  Go.Proofs.YtbnmpopcnpjjdaaW.PrintWords.sized_ints hsz ht hd hu he hc hB h
end Go.Proofs.Ytbnmpopcnpjjdaa.PrintWords
