/- What prefix.Back computes: the prefix of signs that are 0 and 1. -/
import Derived.Test.YtbnmpopcnpjjdaaPreL
import Derived.Test.YtbnmpopcnpjjdaaPPrex20
namespace Go.Proofs.Ytbnmpopcnpjjdaa.PreL
open Go.RowKit Go.Proofs.Ytbnmpopcnpjjdaa.PPre Go.Proofs.Ytbnmpopcnpjjdaa.PBase0 Go.Proofs.Ytbnmpopcnpjjdaa.Hand Go.Proofs.YtbnmpopcnpjjdaaW.PrintWords Go.Proofs.YtbnmpopcnpjjdaaW.PrintLast Go.Proofs.YtbnmpopcnpjjdaaW.PrintMore

def Signs (key : ByteArray) : Prop := ∀ m : Nat, m < key.size → bt key (m : Int) = 48 ∨ bt key (m : Int) = 49
theorem shl_eq (i : Nat) : shl .u8 1 (7 - ((i % 8 : Nat) : Int)) = 2 ^ (7 - ((i % 8 : Nat) : Int)).toNat % 256 := by
  unfold shl
  rw [show min (7 - ((i % 8 : Nat) : Int)).toNat IntKind.u8.bits = (7 - ((i % 8 : Nat) : Int)).toNat by simp [IntKind.bits]; omega, Int.one_mul, IntKind.wrap_u8]
theorem back_yes (key : ByteArray) (L : Nat) (hL : L ≤ 16) (hks : key.size ≤ 8 * L) (hs : Signs key) (d : Nat) :
    ∀ (k i : Nat) (x : List Int), key.size = i + d → d < k → x.length = L → Bytes x → (∀ m : Nat, m < 8 * L → lbit x m = if m < i then bt key (m : Int) - 48 else 0) →
      ∃ r, prefix_Back.l0 k key x (key.size : Int) i = some (r, (key.size : Int), true) ∧ r.size = L ∧ ∀ m : Nat, m < 8 * L → prefix_Key.bit r m = if m < key.size then bt key (m : Int) - 48 else 0 := by
  induction d with
  | zero =>
    intro k i x hd hk hx hb hm
    obtain ⟨k, rfl⟩ : ∃ m, k = m + 1 := ⟨k - 1, by omega⟩
    refine ⟨strOfNums x, ?_, by rw [strOfNums_size, hx], fun m h => ?_⟩
    · simp only [prefix_Back.l0]
      rw [if_neg (by omega)]
    · rw [bit_strOfNums x hb m (by omega), hm m h, show key.size = i by omega]
  | succ d ih =>
    intro k i x hd hk hx hb hm
    obtain ⟨k, rfl⟩ : ∃ m, k = m + 1 := ⟨k - 1, by omega⟩
    simp only [prefix_Back.l0]
    rw [if_pos (by omega), if_pos (by omega), if_pos (by omega), w64 (n := (i : Int) + 1) (by omega) (by omega)]
    rcases hs i (by omega) with h | h
    · rw [if_neg (by omega), if_pos h]
      refine ih k (i + 1) x (by omega) (by omega) hx hb fun m hm1 => ?_
      rw [hm m hm1]
      by_cases e : m = i
      · subst e; rw [if_neg (by omega), if_pos (by omega), h]; rfl
      · by_cases e2 : m < i
        · rw [if_pos e2, if_pos (by omega)]
        · rw [if_neg e2, if_neg (by omega)]
    · rw [if_pos h]
      have e1 : wrap64 (Int.tdiv (i : Int) 8) = ((i / 8 : Nat) : Int) := by
        rw [Int.tdiv_eq_ediv_of_nonneg (by omega)]; unfold wrap64; omega
      have e2 : wrap64 (7 - Int.tmod (i : Int) 8) = 7 - ((i % 8 : Nat) : Int) := by
        rw [Int.tmod_eq_emod_of_nonneg (by omega)]; unfold wrap64; omega
      rw [e1, e2, if_pos (by omega), if_pos (by omega), if_pos (by omega), shl_eq, Int.toNat_natCast]
      have ⟨s1, s2⟩ := set_at x hb i (by omega)
      refine ih k (i + 1) _ (by omega) (by omega) (by rw [List.length_set]; exact hx) s1 fun m hm1 => ?_
      rw [s2, hm m hm1]
      by_cases e : m = i
      · subst e; rw [if_pos rfl, if_pos (by omega), h]; rfl
      · rw [if_neg e]
        by_cases e2 : m < i
        · rw [if_pos e2, if_pos (by omega)]
        · rw [if_neg e2, if_neg (by omega)]
theorem back_no (key : ByteArray) (L : Nat) (hL : L ≤ 16) (hks : key.size ≤ 8 * L) (d : Nat) :
    ∀ (k i : Nat) (x : List Int), key.size = i + d → d < k → x.length = L → (∃ m : Nat, i ≤ m ∧ m < key.size ∧ ¬ (bt key (m : Int) = 48 ∨ bt key (m : Int) = 49)) →
      prefix_Back.l0 k key x (key.size : Int) i = some ((⟨#[]⟩ : ByteArray), 0, false) := by
  induction d with
  | zero => intro k i x hd _ _ ⟨m, h1, h2, _⟩; omega
  | succ d ih =>
    intro k i x hd hk hx ⟨m, h1, h2, h3⟩
    obtain ⟨k, rfl⟩ : ∃ m, k = m + 1 := ⟨k - 1, by omega⟩
    simp only [prefix_Back.l0]
    rw [if_pos (by omega), if_pos (by omega), if_pos (by omega), w64 (n := (i : Int) + 1) (by omega) (by omega)]
    have e1 : wrap64 (Int.tdiv (i : Int) 8) = ((i / 8 : Nat) : Int) := by
      rw [Int.tdiv_eq_ediv_of_nonneg (by omega)]; unfold wrap64; omega
    have e2 : wrap64 (7 - Int.tmod (i : Int) 8) = 7 - ((i % 8 : Nat) : Int) := by
      rw [Int.tmod_eq_emod_of_nonneg (by omega)]; unfold wrap64; omega
    by_cases h : bt key (i : Int) = 49
    · rw [if_pos h, e1, e2, if_pos (by omega), if_pos (by omega), if_pos (by omega)]
      refine ih k (i + 1) _ (by omega) (by omega) (by rw [List.length_set]; exact hx) ⟨m, ?_, h2, h3⟩
      by_cases e : m = i
      · subst e; exact absurd (.inr h) h3
      · omega
    · rw [if_neg h]
      by_cases h' : bt key (i : Int) = 48
      · rw [if_pos h']
        refine ih k (i + 1) _ (by omega) (by omega) hx ⟨m, ?_, h2, h3⟩
        by_cases e : m = i
        · subst e; exact absurd (.inl h') h3
        · omega
      · rw [if_neg h']
theorem rd_zeros (n : Nat) (i : Int) : rd (List.replicate n 0) i = 0 := by
  unfold rd
  simp only [List.getD_eq_getElem?_getD, List.getElem?_replicate]
  split <;> rfl
theorem back_front (k : Nat) (key : ByteArray) (size : Int) (hg : size = 4 ∨ size = 16) (hks : (key.size : Int) ≤ 8 * size) :
    prefix_Back.f (k + 1) key size = prefix_Back.l0 k key (List.replicate size.toNat 0) (key.size : Int) 0 := by
  have hw : wrap64 (8 * size) = 8 * size := by unfold wrap64; omega
  have e : prefix_Back.f (k + 1) key size = prefix_Back.j0 (k + 1) key size (decide ((key.size : Int) > wrap64 (8 * size))) := by
    unfold prefix_Back.f
    by_cases h : size = 4
    · rw [if_pos h]
    · rw [if_neg h, if_pos (by omega)]
  rw [e, hw]
  simp only [prefix_Back.j0]
  rw [if_neg (by simp; omega), if_pos (by omega), if_pos (by omega)]
theorem back_ev_yes (key : ByteArray) (size : Int) (hg : size = 4 ∨ size = 16) (hks : (key.size : Int) ≤ 8 * size) (hs : Signs key) :
    ∃ r, Ev (fun k => prefix_Back.f k key size) (r, (key.size : Int), true) ∧ (r.size : Int) = size ∧ ∀ m : Nat, (m : Int) < 8 * size → prefix_Key.bit r m = if m < key.size then bt key (m : Int) - 48 else 0 := by
  obtain ⟨L, rfl⟩ : ∃ L : Nat, size = L := ⟨size.toNat, by omega⟩
  obtain ⟨r, h1, h2, h3⟩ := back_yes key L (by omega) (by omega) hs key.size (key.size + 1) 0 (List.replicate L 0) (by omega) (by omega) (by simp)
    (by intro x hx; have := List.eq_of_mem_replicate hx; omega) (fun m _ => by unfold lbit; rw [rd_zeros, if_neg (by omega)]; simp)
  refine ⟨r, Ev.of (k := key.size + 2) (fun k => prefix_Back.mono key L k) ?_, by omega, fun m hm => h3 m (by omega)⟩
  rw [back_front _ _ _ hg hks]
  exact h1
theorem back_ev_no (key : ByteArray) (size : Int) (h : ¬ ((size = 4 ∨ size = 16) ∧ (key.size : Int) ≤ 8 * size ∧ Signs key)) :
    Ev (fun k => prefix_Back.f k key size) ((⟨#[]⟩ : ByteArray), 0, false) := by
  by_cases hg : size = 4 ∨ size = 16
  · have hw : wrap64 (8 * size) = 8 * size := by unfold wrap64; omega
    by_cases hks : (key.size : Int) ≤ 8 * size
    · have hn : ∃ m : Nat, 0 ≤ m ∧ m < key.size ∧ ¬ (bt key (m : Int) = 48 ∨ bt key (m : Int) = 49) := by
        apply Classical.byContradiction
        intro hc
        refine h ⟨hg, hks, fun m hm => Classical.byContradiction fun hh => hc ⟨m, by omega, hm, hh⟩⟩
      obtain ⟨L, rfl⟩ : ∃ L : Nat, size = L := ⟨size.toNat, by omega⟩
      refine Ev.of (k := key.size + 2) (fun k => prefix_Back.mono key L k) ?_
      rw [back_front _ _ _ hg hks]
      exact back_no key L (by omega) (by omega) key.size (key.size + 1) 0 _ (by omega) (by omega) (by simp) hn
    · refine Ev.of (k := 1) (fun k => prefix_Back.mono key size k) ?_
      have e : prefix_Back.f 1 key size = prefix_Back.j0 1 key size (decide ((key.size : Int) > wrap64 (8 * size))) := by
        unfold prefix_Back.f
        by_cases h : size = 4
        · rw [if_pos h]
        · rw [if_neg h, if_pos (by omega)]
      rw [e, hw]
      simp only [prefix_Back.j0]
      rw [if_pos (by simp; omega)]
  · refine Ev.of (k := 1) (fun k => prefix_Back.mono key size k) ?_
    unfold prefix_Back.f
    rw [if_neg (by omega), if_neg (by omega)]
    simp only [prefix_Back.j0, if_true]
end Go.Proofs.Ytbnmpopcnpjjdaa.PreL
