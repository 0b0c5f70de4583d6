/- The last of some serial numbers is the one that is later than those it was compared with: for every list of numbers of 32 bits. -/
import Derived.Test.YtbnmpopcnpjjdaaPSerialLastx1
import Derived.Test.YtbnmpopcnpjjdaaWSized
namespace Go.Proofs.Ytbnmpopcnpjjdaa.Pure
open Go.RowKit Go.Proofs.Ytbnmpopcnpjjdaa.PSerialLast Go.Proofs.YtbnmpopcnpjjdaaW.PrintWords Go.Proofs.YtbnmpopcnpjjdaaW.PrintLast

theorem u32b {n : Int} (h : (Lit.int .u32 n).wf = true) : 0 ≤ n ∧ n ≤ 4294967295 := by
  simp [Lit.wf, IntKind.min, IntKind.max, IntKind.signed, IntKind.bits] at h; omega
theorem u16b {n : Int} (h : (Lit.int .u16 n).wf = true) : 0 ≤ n ∧ n ≤ 65535 := by
  simp [Lit.wf, IntKind.min, IntKind.max, IntKind.signed, IntKind.bits] at h; omega
theorem w64 {n : Int} (h0 : 0 ≤ n) (h1 : n ≤ 4611686018427387904) : wrap64 n = n := by unfold wrap64; omega
theorem wu64 {n : Int} (h0 : 0 ≤ n) (h1 : n ≤ 4611686018427387904) : IntKind.u64.wrap n = n := by
  simp [IntKind.wrap, IntKind.signed, IntKind.bits]; omega
theorem later_eq (a b : Int) : serial_Later.f a b = some (decide (0 < (a - b) % 4294967296 ∧ (a - b) % 4294967296 < 2147483648)) := by
  unfold serial_Later.f
  by_cases h : (a - b) % 4294967296 > 0
  · rw [if_pos h]; congr 1; rw [decide_eq_decide]; exact ⟨fun k => ⟨h, k⟩, fun k => k.2⟩
  · rw [if_neg h]; congr 1; symm; rw [decide_eq_false_iff_not]; exact fun k => h k.1
theorem apart_eq (a b : Int) : serial_Apart.f a b = some (decide ((a - b) % 4294967296 = 2147483648)) := by
  unfold serial_Apart.f; rfl
theorem awake_eq : bolterlaw06_awake.f = some true := by decide

def stepL (st : Bool × Int) (n : Int) : Bool × Int :=
  (false, if st.1 then n else if 0 < (n - st.2) % 4294967296 ∧ (n - st.2) % 4294967296 < 2147483648 then n else st.2)
def lastOf (l : List Int) : Int := (l.foldl stepL (true, 0)).2
theorem foldl_fst (l : List Int) : (l.foldl stepL (true, 0)).1 = l.isEmpty := by
  rcases List.eq_nil_or_concat l with h | ⟨m, x, h⟩
  · subst h; rfl
  · subst h; simp [stepL]
theorem take_fold (l : List Int) (j : Nat) (h : j < l.length) : lastOf (l.take (j + 1)) =
    if j = 0 then l[j] else if 0 < (l[j] - lastOf (l.take j)) % 4294967296 ∧ (l[j] - lastOf (l.take j)) % 4294967296 < 2147483648 then l[j] else lastOf (l.take j) := by
  unfold lastOf
  rw [List.take_succ_eq_append_getElem h, List.foldl_append]
  simp only [List.foldl_cons, List.foldl_nil]
  have e := foldl_fst (l.take j)
  rw [stepL, e]
  by_cases hj : j = 0
  · subst hj; simp
  · have : (l.take j).isEmpty = false := by
      rw [List.isEmpty_eq_false_iff]; intro h0
      have := congrArg List.length h0
      rw [List.length_take, List.length_nil] at this; omega
    rw [this]; simp only [Bool.false_eq_true, if_false, if_neg hj]
theorem inner_loop (l : List Int) (hl : l.length * 4 ≤ 140737488351232) (d : Nat) :
    ∀ (k : Nat) (i : Int), 0 ≤ i → i ≤ l.length → (l.length : Int) - i = d → d < k →
      serial_Last.l0 k l (lastOf (l.take i.toNat)) l l.length i = some (lastOf l, decide ((l.length : Int) > 0)) := by
  induction d with
  | zero =>
    intro k i i0 i1 hd hk
    obtain ⟨k, rfl⟩ : ∃ m, k = m + 1 := ⟨k - 1, by omega⟩
    simp only [serial_Last.l0]
    rw [if_neg (by omega), List.take_of_length_le (by omega)]
  | succ d ih =>
    intro k i i0 i1 hd hk
    obtain ⟨k, rfl⟩ : ∃ m, k = m + 1 := ⟨k - 1, by omega⟩
    have hlt : i < (l.length : Int) := by omega
    have hn : i.toNat < l.length := by omega
    have hr : rd l i = l[i.toNat] := by simp [rd, List.getD, hn]
    simp only [serial_Last.l0]
    rw [if_pos hlt, if_pos i0, if_pos hlt, w64 (by omega) (by omega), hr, later_eq]
    have step := ih k (i + 1) (by omega) (by omega) (by omega) (by omega)
    rw [show (i + 1).toNat = i.toNat + 1 by omega, take_fold l i.toNat hn] at step
    by_cases h : i = 0
    · rw [if_pos h]; rw [if_pos (by omega)] at step; exact step
    · rw [if_neg h]; rw [if_neg (by omega)] at step
      simp only [Option.bind_some, decide_eq_true_eq]
      split
      · rename_i hh; rw [if_pos hh] at step; exact step
      · rename_i hh; rw [if_neg hh] at step; exact step
theorem outer_loop (l : List Int) (hl : l.length * 4 ≤ 140737488351232) (d : Nat) :
    ∀ (k : Nat) (i : Int), 0 ≤ i → i ≤ l.length → (l.length : Int) - i = d → d + l.length + 1 < k →
      bolterlaw06_SerialLast.l0 k l (lastOf (l.take i.toNat)) (decide ((l.length : Int) > 0)) l l.length i = some true := by
  induction d with
  | zero =>
    intro k i i0 i1 hd hk
    obtain ⟨k, rfl⟩ : ∃ m, k = m + 1 := ⟨k - 1, by omega⟩
    simp only [bolterlaw06_SerialLast.l0]
    rw [if_neg (by omega), List.take_of_length_le (by omega)]
    unfold serial_Last.f
    have := inner_loop l hl l.length k 0 (by omega) (by omega) (by omega) (by omega)
    rw [show lastOf (l.take (0 : Int).toNat) = 0 from by simp [lastOf]] at this
    rw [this]
    simp
  | succ d ih =>
    intro k i i0 i1 hd hk
    obtain ⟨k, rfl⟩ : ∃ m, k = m + 1 := ⟨k - 1, by omega⟩
    have hlt : i < (l.length : Int) := by omega
    have hn : i.toNat < l.length := by omega
    have hr : rd l i = l[i.toNat] := by simp [rd, List.getD, hn]
    simp only [bolterlaw06_SerialLast.l0]
    rw [if_pos hlt, if_pos i0, if_pos hlt, w64 (by omega) (by omega), hr, later_eq]
    have step := ih k (i + 1) (by omega) (by omega) (by omega) (by omega)
    rw [show (i + 1).toNat = i.toNat + 1 by omega, take_fold l i.toNat hn] at step
    by_cases h : i = 0
    · rw [if_pos h]; rw [if_pos (by omega)] at step; exact step
    · rw [if_neg h]; rw [if_neg (by omega)] at step
      simp only [Option.bind_some, decide_eq_true_eq]
      split
      · rename_i hh; rw [if_pos hh] at step; exact step
      · rename_i hh; rw [if_neg hh] at step; exact step
theorem SerialLast : bolterlaw06_SerialLast.Pure := by
  intro l hlm hl hx
  refine ⟨l.length + l.length + 2, ?_⟩
  unfold bolterlaw06_SerialLast.f
  rw [awake_eq]
  simp only [Option.bind_some, if_true]
  have := outer_loop l hl l.length (l.length + l.length + 2) 0 (by omega) (by omega) (by omega) (by omega)
  rw [show lastOf (l.take (0 : Int).toNat) = 0 from by simp [lastOf]] at this
  exact this

end Go.Proofs.Ytbnmpopcnpjjdaa.Pure
namespace Go.Proofs.Ytbnmpopcnpjjdaa.PrintWords
open Go.ChangeShapes Go.WideShapes
/-- The row speaks of this word by a short name. -/
theorem sized_ints {H : Type} {enc : TypeId × Value → H} {P : Program} {W : World} {base : Nat} {spare : Nat → Bool} {held : Bool} {t e : TypeId} {k : IntKind} {a : Option Addr} {len cap : Nat} {d : DataW H} {ps : List MemPlace} {ts : List TypeId} {ds : List (DataW H)} {j : Nat}
    (hsz : (DataW.weightsEach P ts ds).all (· ≤ reachBytes) = true) (ht : ts[j]? = some t) (hd : ds[j]? = some d) (hu : P.underlying t = some (.slice e)) (he : P.underlying e = some (.int k)) (hc : P.cellsOf e = 1) {B : Nat} (hB : P.bytesOf e = B)
    (h : DataW.Trod enc P W base spare held t (.slice a len cap) d ps) : len * B ≤ 140737488351232 :=
  Go.Proofs.YtbnmpopcnpjjdaaW.PrintWords.sized_ints hsz ht hd hu he hc hB h
end Go.Proofs.Ytbnmpopcnpjjdaa.PrintWords
