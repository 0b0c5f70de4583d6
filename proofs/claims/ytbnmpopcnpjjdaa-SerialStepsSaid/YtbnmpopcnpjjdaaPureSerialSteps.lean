/- Serial numbers that go on step by step are each later than all ahead, as long as they have not gone half round: for every start and every list of steps. -/
import Derived.Test.YtbnmpopcnpjjdaaPSerialStepsx1
import Derived.Test.YtbnmpopcnpjjdaaWSized
namespace Go.Proofs.Ytbnmpopcnpjjdaa.Pure
open Go.RowKit Go.Proofs.Ytbnmpopcnpjjdaa.PSerialSteps Go.Proofs.YtbnmpopcnpjjdaaW.PrintWords Go.Proofs.YtbnmpopcnpjjdaaW.PrintLast

theorem u32b {n : Int} (h : (Lit.int .u32 n).wf = true) : 0 ≤ n ∧ n ≤ 4294967295 := by
  simp [Lit.wf, IntKind.min, IntKind.max, IntKind.signed, IntKind.bits] at h; omega
theorem u16b {n : Int} (h : (Lit.int .u16 n).wf = true) : 0 ≤ n ∧ n ≤ 65535 := by
  simp [Lit.wf, IntKind.min, IntKind.max, IntKind.signed, IntKind.bits] at h; omega
theorem w64 {n : Int} (h0 : 0 ≤ n) (h1 : n ≤ 4611686018427387904) : wrap64 n = n := by unfold wrap64; omega
theorem wu64 {n : Int} (h0 : 0 ≤ n) (h1 : n ≤ 4611686018427387904) : IntKind.u64.wrap n = n := by
  simp [IntKind.wrap, IntKind.signed, IntKind.bits]; omega
theorem later_eq (a b : Int) : serial_Later.f a b = some (decide (0 < (a - b) % 4294967296 ∧ (a - b) % 4294967296 < 2147483648)) := by
  unfold serial_Later.f
  by_cases h : (a - b) % 4294967296 > 0
  · rw [if_pos h]; congr 1; rw [decide_eq_decide]; exact ⟨fun k => ⟨h, k⟩, fun k => k.2⟩
  · rw [if_neg h]; congr 1; symm; rw [decide_eq_false_iff_not]; exact fun k => h k.1
theorem apart_eq (a b : Int) : serial_Apart.f a b = some (decide ((a - b) % 4294967296 = 2147483648)) := by
  unfold serial_Apart.f; rfl
theorem awake_eq : bolterlaw06_awake.f = some true := by decide

theorem steps_loop (a : Int) (l : List Int) (a0 : 0 ≤ a) (a1 : a ≤ 4294967295) (hl : l.length * 2 ≤ 140737488351232) (hx : ∀ x ∈ l, (Lit.int .u16 x).wf = true) (d : Nat) :
    ∀ (k : Nat) (cur all i : Int), 0 ≤ i → i ≤ l.length → (l.length : Int) - i = d → d < k → 0 ≤ all → all ≤ i * 65535 → cur = (a + all) % 4294967296 →
      bolterlaw06_SerialSteps.l0 k a cur all l l.length i = some true := by
  induction d with
  | zero =>
    intro k cur all i i0 i1 hd hk h0 h1 hc
    obtain ⟨k, rfl⟩ : ∃ m, k = m + 1 := ⟨k - 1, by omega⟩
    simp only [bolterlaw06_SerialSteps.l0]
    rw [if_neg (by omega), wu64 a0 (by omega), wu64 (by omega) (by omega), wu64 (by omega) (by omega), Int.tmod_eq_emod_of_nonneg (by omega), hc]
    simp
  | succ d ih =>
    intro k cur all i i0 i1 hd hk h0 h1 hc
    obtain ⟨k, rfl⟩ : ∃ m, k = m + 1 := ⟨k - 1, by omega⟩
    have hlt : i < (l.length : Int) := by omega
    have hn : i.toNat < l.length := by omega
    have hr : rd l i = l[i.toNat] := by simp [rd, List.getD, hn]
    have ⟨n0, n1⟩ := u16b (hx _ (List.getElem_mem hn))
    rw [← hr] at n0 n1
    simp only [bolterlaw06_SerialSteps.l0]
    rw [if_pos hlt, if_pos i0, if_pos hlt]
    clear hr
    generalize rd l i = n at n0 n1
    unfold serial_Add.f
    rw [if_neg (by omega)]
    simp only [Option.bind_some, if_true]
    rw [wu64 n0 (by omega), wu64 (by omega) (by omega), w64 (by omega) (by omega)]
    have step := ih k ((cur + n % 4294967296) % 4294967296) (all + n) (i + 1) (by omega) (by omega) (by omega) (by omega) (by omega) (by omega) (by omega)
    by_cases h : all + n < 2147483648
    · rw [if_pos h, later_eq]
      simp only [Option.bind_some]
      rw [if_neg]
      · exact step
      · have e : ((cur + n % 4294967296) % 4294967296 - a) % 4294967296 = all + n := by omega
        rw [e]
        simp
        omega
    · rw [if_neg h]
      exact step
theorem SerialSteps : bolterlaw06_SerialSteps.Pure := by
  intro a l ha hlm hl hx
  have ⟨a0, a1⟩ := u32b ha
  refine ⟨l.length + 1, ?_⟩
  unfold bolterlaw06_SerialSteps.f
  rw [awake_eq]
  simp only [Option.bind_some, if_true]
  exact steps_loop a l a0 a1 hl hx l.length _ _ _ _ (by omega) (by omega) (by omega) (by omega) (by omega) (by omega) (by omega)

end Go.Proofs.Ytbnmpopcnpjjdaa.Pure
namespace Go.Proofs.Ytbnmpopcnpjjdaa.PrintWords
open Go.ChangeShapes Go.WideShapes
/-- The row speaks of this word by a short name. -/
theorem sized_ints {H : Type} {enc : TypeId × Value → H} {P : Program} {W : World} {base : Nat} {spare : Nat → Bool} {held : Bool} {t e : TypeId} {k : IntKind} {a : Option Addr} {len cap : Nat} {d : DataW H} {ps : List MemPlace} {ts : List TypeId} {ds : List (DataW H)} {j : Nat}
    (hsz : (DataW.weightsEach P ts ds).all (· ≤ reachBytes) = true) (ht : ts[j]? = some t) (hd : ds[j]? = some d) (hu : P.underlying t = some (.slice e)) (he : P.underlying e = some (.int k)) (hc : P.cellsOf e = 1) {B : Nat} (hB : P.bytesOf e = B)
    (h : DataW.Trod enc P W base spare held t (.slice a len cap) d ps) : len * B ≤ 140737488351232 :=
  Go.Proofs.YtbnmpopcnpjjdaaW.PrintWords.sized_ints hsz ht hd hu he hc hB h
end Go.Proofs.Ytbnmpopcnpjjdaa.PrintWords
