/- An address's first bits are its own, and all others 0; what has not so many has none: for every text and number, and addresses made by all lists of numbers. -/
import Derived.Test.YtbnmpopcnpjjdaaPPrex14
import Derived.Test.YtbnmpopcnpjjdaaPreL
import Derived.Test.YtbnmpopcnpjjdaaWSized
namespace Go.Proofs.Ytbnmpopcnpjjdaa.Pure
open Go.RowKit Go.Proofs.Ytbnmpopcnpjjdaa.PPre Go.Proofs.Ytbnmpopcnpjjdaa.PBase0 Go.Proofs.Ytbnmpopcnpjjdaa.Hand Go.Proofs.Ytbnmpopcnpjjdaa.PreL Go.Proofs.YtbnmpopcnpjjdaaW.PrintWords Go.Proofs.YtbnmpopcnpjjdaaW.PrintLast

theorem address_eq (a : ByteArray) : prefix_Address.f a = some (decide (IsAdr a)) := by
  unfold prefix_Address.f
  by_cases h : (a.size : Int) = 4
  · rw [if_pos h]; congr 1; symm; apply decide_eq_true; show a.size = 4 ∨ a.size = 16; omega
  · rw [if_neg h]; congr 1; rw [Bool.eq_iff_iff, beq_iff_eq, decide_eq_true_iff]; show _ ↔ (a.size = 4 ∨ a.size = 16); omega
theorem zeros_loop (n : Nat) (x : ByteArray) (h16 : x.size ≤ 16) (hn : n ≤ 8 * x.size) (ys : List ByteArray) (len i : Int) (i' : Int) (hi : wrap64 (i + 1) = i') (K : Nat)
    (hK : ∀ k, K ≤ k → bolterlaw12_PrefixCut.l0 k n ys len i' = some true) (d : Nat) :
    ∀ (k m : Nat), n ≤ m → 8 * x.size = m + d → K + d < k → bolterlaw12_PrefixCut.l1 k n (sgn (cutS x n) (8 * x.size)) m ys len i = some true := by
  have hs := sgn_size (cutS x n) (8 * x.size)
  induction d with
  | zero =>
    intro k m h1 h2 h3
    obtain ⟨k, rfl⟩ : ∃ q, k = q + 1 := ⟨k - 1, by omega⟩
    simp only [bolterlaw12_PrefixCut.l1]
    rw [if_neg (by rw [hs]; omega), hi]
    exact hK k (by omega)
  | succ d ih =>
    intro k m h1 h2 h3
    obtain ⟨k, rfl⟩ : ∃ q, k = q + 1 := ⟨k - 1, by omega⟩
    simp only [bolterlaw12_PrefixCut.l1]
    have hb : bt (sgn (cutS x n) (8 * x.size)) (m : Int) = 48 := by
      rw [bt_sgn _ _ _ (by omega), cutS_bit x n hn m (by omega), if_neg (by omega)]; rfl
    rw [if_pos (by rw [hs]; omega), if_pos (by omega), if_pos hb, w64 (n := (m : Int) + 1) (by omega) (by omega)]
    exact ih k (m + 1) (by omega) (by omega) (by omega)
theorem round_yes (n : Nat) (x : ByteArray) (hg : IsAdr x) (hn : n ≤ 8 * x.size) (ys : List ByteArray) (len i : Int) (i' : Int) (hi : wrap64 (i + 1) = i') (K : Nat)
    (hK : ∀ k, K ≤ k → bolterlaw12_PrefixCut.l0 k n ys len i' = some true) (h0 : 0 ≤ i) (h1 : i < len) (h2 : i < (ys.length : Int)) (hx : rdOf ByteArray.empty ys i = x) :
    ∃ K', ∀ k, K' ≤ k → bolterlaw12_PrefixCut.l0 k n ys len i = some true := by
  have h16 : x.size ≤ 16 := by unfold IsAdr at hg; omega
  obtain ⟨K3, h3⟩ := bits_ev (cutS x n) (by rw [cutS_size]; exact h16)
  obtain ⟨K4, h4⟩ := bits_ev x h16
  dsimp only at h3 h4
  rw [cutS_size] at h3
  have hw : wrap64 (8 * (x.size : Int)) = 8 * (x.size : Int) := w64 (by omega) (by omega)
  have hcut : prefix_Cut.f x n = some (cutS x n, (n : Int), true) := by rw [cut_eq, if_pos ⟨hg, by omega, by omega⟩]
  refine ⟨K + K3 + K4 + 8 * x.size + 5, fun k hk => ?_⟩
  obtain ⟨k, rfl⟩ : ∃ q, k = q + 4 := ⟨k - 4, by omega⟩
  have j3 : bolterlaw12_PrefixCut.j3 (k + 1) n (sgn (cutS x n) (8 * x.size)) ys len i false = some true := by
    simp only [bolterlaw12_PrefixCut.j3]
    rw [if_neg (by decide)]
    exact zeros_loop n x h16 hn ys len i i' hi K hK (8 * x.size - n) k n (Nat.le_refl _) (by omega) (by omega)
  have j2 : bolterlaw12_PrefixCut.j2 (k + 2) n x true ys len i false (cutS x n) n = some true := by
    simp only [bolterlaw12_PrefixCut.j2]
    rw [if_neg (by decide), if_pos trivial, h3 _ (by omega), Option.bind_some, if_pos trivial, if_pos (by rw [cutS_size]), if_pos (by omega), if_pos (by rw [sgn_size]; omega), h4 _ (by omega), Option.bind_some, if_pos (by rw [sgn_size]; omega)]
    rw [Int.toNat_natCast, sgn_take _ n _ hn, sgn_take _ n _ hn, (sgn_eq (cutS x n) x n).2 fun i hi => by rw [cutS_bit x n hn i (by omega), if_pos hi]]
    rw [bne_self_eq_false]
    exact j3
  have j1 : bolterlaw12_PrefixCut.j1 (k + 3) n x true true ys len i (cutS x n) n = some true := by
    simp only [bolterlaw12_PrefixCut.j1]
    rw [address_eq, Option.bind_some, decide_eq_true hg]
    by_cases e : (x.size : Int) = 4
    · rw [if_pos e, if_neg (by decide)]; exact j2
    · have e16 : ((x.size : Int) == 16) = true := by rw [beq_iff_eq]; unfold IsAdr at hg; omega
      rw [if_neg e, e16, if_neg (by decide)]; exact j2
  have hd : decide ((n : Int) ≤ 8 * (x.size : Int)) = true := decide_eq_true (by omega)
  simp only [bolterlaw12_PrefixCut.l0]
  rw [if_pos h1, if_pos h0, if_pos h2, hx, hcut, Option.bind_some]
  dsimp only
  by_cases e : (x.size : Int) = 4
  · rw [if_pos e, if_pos (by omega), hw, hd]; exact j1
  · rw [if_neg e, if_pos (by unfold IsAdr at hg; omega), if_pos (by omega), hw, hd]; exact j1
theorem round_no (n : Int) (x : ByteArray) (hc : ¬ (IsAdr x ∧ 0 ≤ n ∧ n ≤ 8 * (x.size : Int))) (ys : List ByteArray) (len i : Int) (i' : Int) (hi : wrap64 (i + 1) = i') (K : Nat)
    (hK : ∀ k, K ≤ k → bolterlaw12_PrefixCut.l0 k n ys len i' = some true) (h0 : 0 ≤ i) (h1 : i < len) (h2 : i < (ys.length : Int)) (hx : rdOf ByteArray.empty ys i = x) :
    ∃ K', ∀ k, K' ≤ k → bolterlaw12_PrefixCut.l0 k n ys len i = some true := by
  have hcut : prefix_Cut.f x n = some ((⟨#[]⟩ : ByteArray), 0, false) := by rw [cut_eq, if_neg hc]
  refine ⟨K + 5, fun k hk => ?_⟩
  obtain ⟨k, rfl⟩ : ∃ q, k = q + 3 := ⟨k - 3, by omega⟩
  have j2 : bolterlaw12_PrefixCut.j2 (k + 1) n x false ys len i false (⟨#[]⟩ : ByteArray) 0 = some true := by
    simp only [bolterlaw12_PrefixCut.j2]
    have e : (!((⟨#[]⟩ : ByteArray).toList == ([] : List UInt8)) || (!((0 : Int) == 0))) = false := by rw [Lib.toList_data]; rfl
    rw [if_neg (by decide), if_neg (by decide), e, if_neg (by decide), hi]
    exact hK k (by omega)
  have j1 : bolterlaw12_PrefixCut.j1 (k + 2) n x false false ys len i (⟨#[]⟩ : ByteArray) 0 = some true := by
    simp only [bolterlaw12_PrefixCut.j1]
    rw [address_eq, Option.bind_some]
    by_cases e : (x.size : Int) = 4
    · have hd : decide (IsAdr x) = true := decide_eq_true (by show x.size = 4 ∨ x.size = 16; omega)
      rw [if_pos e, hd, if_neg (by decide)]; exact j2
    · have hd : decide (IsAdr x) = ((x.size : Int) == 16) := by rw [Bool.eq_iff_iff, beq_iff_eq, decide_eq_true_iff]; show (x.size = 4 ∨ x.size = 16) ↔ _; omega
      rw [if_neg e, hd, bne_self_eq_false, if_neg (by decide)]; exact j2
  simp only [bolterlaw12_PrefixCut.l0]
  rw [if_pos h1, if_pos h0, if_pos h2, hx, hcut, Option.bind_some]
  dsimp only
  by_cases e : (x.size : Int) = 4
  · rw [if_pos e]
    by_cases hp : n ≥ 0
    · have hd : decide (n ≤ wrap64 (8 * (x.size : Int))) = false := decide_eq_false (by
        rw [w64 (n := 8 * (x.size : Int)) (by omega) (by omega)]; intro h; exact hc ⟨(by show x.size = 4 ∨ x.size = 16; omega), hp, h⟩)
      rw [if_pos hp, hd]; exact j1
    · rw [if_neg hp]; exact j1
  · rw [if_neg e]
    by_cases e2 : (x.size : Int) = 16
    · rw [if_pos e2]
      by_cases hp : n ≥ 0
      · have hd : decide (n ≤ wrap64 (8 * (x.size : Int))) = false := decide_eq_false (by
          rw [w64 (n := 8 * (x.size : Int)) (by omega) (by omega)]; intro h; exact hc ⟨(by show x.size = 4 ∨ x.size = 16; omega), hp, h⟩)
        rw [if_pos hp, hd]; exact j1
      · rw [if_neg hp]; exact j1
    · rw [if_neg e2]; exact j1
theorem round_any (n : Int) (x : ByteArray) (ys : List ByteArray) (len i : Int) (i' : Int) (hi : wrap64 (i + 1) = i') (K : Nat)
    (hK : ∀ k, K ≤ k → bolterlaw12_PrefixCut.l0 k n ys len i' = some true) (h0 : 0 ≤ i) (h1 : i < len) (h2 : i < (ys.length : Int)) (hx : rdOf ByteArray.empty ys i = x) :
    ∃ K', ∀ k, K' ≤ k → bolterlaw12_PrefixCut.l0 k n ys len i = some true := by
  by_cases hc : IsAdr x ∧ 0 ≤ n ∧ n ≤ 8 * (x.size : Int)
  · obtain ⟨m, rfl⟩ : ∃ m : Nat, n = m := ⟨n.toNat, by omega⟩
    exact round_yes m x hc.1 (by omega) ys len i i' hi K hK h0 h1 h2 hx
  · exact round_no n x hc ys len i i' hi K hK h0 h1 h2 hx
theorem PrefixCut : bolterlaw12_PrefixCut.Pure := by
  intro a n six ns ha hn hm hl hx
  obtain ⟨b, ⟨K1, h1⟩, hs1⟩ := addr_ev six ns hl hx
  dsimp only at h1
  have e2 : ∀ k, 1 ≤ k → bolterlaw12_PrefixCut.l0 k n [a, b] 2 2 = some true := by
    intro k hk
    obtain ⟨k, rfl⟩ : ∃ q, k = q + 1 := ⟨k - 1, by omega⟩
    simp only [bolterlaw12_PrefixCut.l0]
    rw [if_neg (by decide)]
  obtain ⟨K2, h2⟩ := round_any n b [a, b] 2 1 2 (by decide +kernel) 1 e2 (by decide) (by decide) (by simp) rfl
  obtain ⟨K3, h3⟩ := round_any n a [a, b] 2 0 1 (by decide +kernel) K2 h2 (by decide) (by decide) (by simp) rfl
  refine ⟨K1 + K3, ?_⟩
  unfold bolterlaw12_PrefixCut.f
  rw [awake_eq, Option.bind_some, if_pos rfl, h1 _ (by omega), Option.bind_some, Option.bind_some]
  exact h3 _ (by omega)

end Go.Proofs.Ytbnmpopcnpjjdaa.Pure
namespace Go.Proofs.Ytbnmpopcnpjjdaa.PrintWords
open Go.ChangeShapes Go.WideShapes
/-- The row speaks of this word by a short name. -/
theorem sized_ints {H : Type} {enc : TypeId × Value → H} {P : Program} {W : World} {base : Nat} {spare : Nat → Bool} {held : Bool} {t e : TypeId} {k : IntKind} {a : Option Addr} {len cap : Nat} {d : DataW H} {ps : List MemPlace} {ts : List TypeId} {ds : List (DataW H)} {j : Nat}
    (hsz : (DataW.weightsEach P ts ds).all (· ≤ reachBytes) = true) (ht : ts[j]? = some t) (hd : ds[j]? = some d) (hu : P.underlying t = some (.slice e)) (he : P.underlying e = some (.int k)) (hc : P.cellsOf e = 1) {B : Nat} (hB : P.bytesOf e = B)
    (h : DataW.Trod enc P W base spare held t (.slice a len cap) d ps) : len * B ≤ 140737488351232 :=
  Go.Proofs.YtbnmpopcnpjjdaaW.PrintWords.sized_ints hsz ht hd hu he hc hB h
end Go.Proofs.Ytbnmpopcnpjjdaa.PrintWords
