/- Signs that are 0 and 1, and no more than an address has bits, are a prefix's; no others are: for every string and every size. -/
import Derived.Test.YtbnmpopcnpjjdaaPPrex22
import Derived.Test.YtbnmpopcnpjjdaaPreB
namespace Go.Proofs.Ytbnmpopcnpjjdaa.Pure
open Go.RowKit Go.Proofs.Ytbnmpopcnpjjdaa.PPre Go.Proofs.Ytbnmpopcnpjjdaa.PBase0 Go.Proofs.Ytbnmpopcnpjjdaa.Hand Go.Proofs.Ytbnmpopcnpjjdaa.PreL Go.Proofs.YtbnmpopcnpjjdaaW.PrintWords Go.Proofs.YtbnmpopcnpjjdaaW.PrintLast

noncomputable def allSig (key : ByteArray) (i : Nat) : Bool := @decide (∀ m : Nat, i ≤ m → m < key.size → bt key (m : Int) = 48 ∨ bt key (m : Int) = 49) (Classical.propDecidable _)
theorem allSig_iff (key : ByteArray) (i : Nat) : allSig key i = true ↔ ∀ m : Nat, i ≤ m → m < key.size → bt key (m : Int) = 48 ∨ bt key (m : Int) = 49 := @decide_eq_true_iff _ (Classical.propDecidable _)
theorem back_law_loop (key : ByteArray) (hk0 : key.size ≤ 140737488351232) (size : Int) (ok : Bool) (p : ByteArray) (n : Int) (d : Nat) :
    ∀ (k i : Nat) (is : Bool), key.size = i + d → d < k →
      bolterlaw12_PrefixBack.l0 k key size ok is i p n = bolterlaw12_PrefixBack.l0 1 key size ok (is && allSig key i) (key.size : Nat) p n := by
  induction d with
  | zero =>
    intro k i is hd hk
    obtain ⟨k, rfl⟩ : ∃ m, k = m + 1 := ⟨k - 1, by omega⟩
    have e : allSig key i = true := by
      rw [allSig_iff]; intro m h1 h2; omega
    rw [e, Bool.and_true, show i = key.size by omega]
    have hh : ¬ ((key.size : Nat) : Int) < (key.size : Int) := by omega
    simp only [bolterlaw12_PrefixBack.l0, hh, if_false]
  | succ d ih =>
    intro k i is hd hk
    obtain ⟨k, rfl⟩ : ∃ m, k = m + 1 := ⟨k - 1, by omega⟩
    have w : wrap64 ((i : Int) + 1) = ((i + 1 : Nat) : Int) := by rw [w64 (by omega) (by omega)]; rfl
    have step : ∀ is', bolterlaw12_PrefixBack.l0 k key size ok is' ((i + 1 : Nat) : Int) p n = _ := fun is' => ih k (i + 1) is' (by omega) (by omega)
    conv => lhs; simp only [bolterlaw12_PrefixBack.l0]
    rw [if_pos (by omega), w]
    have split_ : allSig key i =
        (decide (bt key (i : Int) = 48 ∨ bt key (i : Int) = 49) && allSig key (i + 1)) := by
      rw [Bool.eq_iff_iff, Bool.and_eq_true, allSig_iff, decide_eq_true_eq, allSig_iff]
      constructor
      · intro h; exact ⟨h i (by omega) (by omega), fun m h1 h2 => h m (by omega) h2⟩
      · rintro ⟨h1, h2⟩ m h3 h4
        by_cases e : m = i
        · subst e; exact h1
        · exact h2 m (by omega) h4
    rw [split_]
    cases is with
    | false =>
      simp only [Bool.false_eq_true, if_false, Bool.false_and]
      rw [step]; simp
    | true =>
      simp only [if_true, Bool.true_and]
      rw [if_pos (by omega)]
      by_cases h : bt key (i : Int) = 48
      · rw [if_pos h, step]; simp [h]
      · rw [if_neg h, step]
        by_cases h' : bt key (i : Int) = 49
        · simp [h']
        · simp [h, h', show (bt key (i : Int) == 49) = false by simpa using h']
theorem PrefixBack : bolterlaw12_PrefixBack.Pure := by
  intro key size hk0 hsz
  by_cases c : (size = 4 ∨ size = 16) ∧ (key.size : Int) ≤ 8 * size ∧ Signs key
  · obtain ⟨hg, hks, hs⟩ := c
    have hw : wrap64 (8 * size) = 8 * size := by unfold wrap64; omega
    obtain ⟨r, ⟨K, hb⟩, hr, hbit⟩ := back_ev_yes key size hg hks hs
    dsimp only at hb
    have hgr : IsAdr r := by unfold IsAdr; omega
    have hcr : cutS r (key.size : Int) = r := by
      refine bits_ext _ _ (cutS_size _ _) fun i hi => ?_
      rw [cutS_size] at hi
      rw [cutS_bit r key.size (by omega) i hi]
      split
      · rfl
      · rename_i h; rw [hbit i (by omega), if_neg h]
    refine ⟨K + key.size + 2, ?_⟩
    unfold bolterlaw12_PrefixBack.f
    rw [awake_eq]
    simp only [Option.bind_some, if_true]
    rw [hb _ (by omega)]
    simp only [Option.bind_some]
    have fin : bolterlaw12_PrefixBack.j0 (K + key.size + 2) key size true (decide ((key.size : Int) ≤ wrap64 (8 * size))) r (key.size : Int) = some true := by
      rw [hw, decide_eq_true hks]
      simp only [bolterlaw12_PrefixBack.j0]
      have := back_law_loop key hk0 size true r (key.size : Int) key.size (K + key.size + 1) 0 true (by omega) (by omega)
      rw [show ((0 : Nat) : Int) = 0 from rfl] at this
      rw [this, (allSig_iff key 0).2 (fun m _ h => hs m h)]
      simp only [bolterlaw12_PrefixBack.l0, Bool.and_true, if_true]
      rw [if_neg (by omega), may_eq, decide_eq_true ⟨hgr, by omega, by omega, hcr⟩]
      simp only [Option.bind_some, if_true]
      rw [key_eq, if_pos ⟨hgr, by omega, by omega, hcr⟩]
      simp only [Option.bind_some, Int.toNat_natCast]
      have e : sgn r key.size = key := by
        apply ByteArray.ext
        apply Array.ext
        · exact sgn_size r key.size
        · intro i h1 h2
          have h1' : i < (sgn r key.size).size := h1
          have h2' : i < key.size := h2
          have x : bt (sgn r key.size) (i : Int) = bt key (i : Int) := by
            rw [bt_sgn r key.size i h2', hbit i (by omega), if_pos h2']; omega
          have xa := bt_at (sgn r key.size) (i : Int) (by simpa using h1')
          have xb := bt_at key (i : Int) (by simpa using h2')
          rw [← xa, ← xb] at x
          apply UInt8.toNat_inj.1
          have y : (((sgn r key.size).data[i].toNat : Nat) : Int) = (key.data[i].toNat : Nat) := by simpa [ByteArray.getElem_eq_getElem_data] using x
          exact Int.ofNat.inj y
      rw [e, if_pos rfl]
      simp [hr]
    rcases hg with h | h
    · rw [if_pos h]; exact fin
    · rw [if_neg (by omega), if_pos h]; exact fin
  · obtain ⟨K, hb⟩ := back_ev_no key size c
    dsimp only at hb
    refine ⟨K + key.size + 2, ?_⟩
    unfold bolterlaw12_PrefixBack.f
    rw [awake_eq]
    simp only [Option.bind_some, if_true]
    rw [hb _ (by omega)]
    simp only [Option.bind_some]
    have fin : ∀ is : Bool, (is = true → (size = 4 ∨ size = 16) ∧ (key.size : Int) ≤ 8 * size) → bolterlaw12_PrefixBack.j0 (K + key.size + 2) key size false is (⟨#[]⟩ : ByteArray) 0 = some true := by
      intro is his
      simp only [bolterlaw12_PrefixBack.j0]
      have := back_law_loop key hk0 size false (⟨#[]⟩ : ByteArray) 0 key.size (K + key.size + 1) 0 is (by omega) (by omega)
      rw [show ((0 : Nat) : Int) = 0 from rfl] at this
      rw [this]
      have e : (is && allSig key 0) = false := by
        rw [Bool.and_eq_false_iff]
        cases is with
        | false => exact .inl rfl
        | true =>
          right
          rw [← Bool.not_eq_true, allSig_iff]
          intro h
          exact c ⟨(his rfl).1, (his rfl).2, fun m hm => h m (by omega) hm⟩
      rw [e]
      simp only [bolterlaw12_PrefixBack.l0]
      rw [if_neg (by omega)]
      simp only [Bool.false_eq_true, if_false]
      rw [Lib.toList_data]; rfl
    have hw : (size = 4 ∨ size = 16) → wrap64 (8 * size) = 8 * size := by intro h; unfold wrap64; omega
    by_cases h : size = 4
    · rw [if_pos h]; exact fin _ (fun hh => ⟨.inl h, by rw [hw (.inl h)] at hh; simpa using hh⟩)
    · rw [if_neg h]
      by_cases h' : size = 16
      · rw [if_pos h']; exact fin _ (fun hh => ⟨.inr h', by rw [hw (.inr h')] at hh; simpa using hh⟩)
      · rw [if_neg h']; exact fin _ (fun hh => by cases hh)

end Go.Proofs.Ytbnmpopcnpjjdaa.Pure
