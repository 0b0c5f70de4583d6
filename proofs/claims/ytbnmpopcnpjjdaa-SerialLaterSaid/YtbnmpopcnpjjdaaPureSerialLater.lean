/- Of two serial numbers one is later, or they are the same, or they can't be compared: for all pairs of numbers of 32 bits. -/
import Derived.Test.YtbnmpopcnpjjdaaPSerialLaterx1
namespace Go.Proofs.Ytbnmpopcnpjjdaa.Pure
open Go.RowKit Go.Proofs.Ytbnmpopcnpjjdaa.PSerialLater Go.Proofs.YtbnmpopcnpjjdaaW.PrintWords Go.Proofs.YtbnmpopcnpjjdaaW.PrintLast

theorem u32b {n : Int} (h : (Lit.int .u32 n).wf = true) : 0 ≤ n ∧ n ≤ 4294967295 := by
  simp [Lit.wf, IntKind.min, IntKind.max, IntKind.signed, IntKind.bits] at h; omega
theorem u16b {n : Int} (h : (Lit.int .u16 n).wf = true) : 0 ≤ n ∧ n ≤ 65535 := by
  simp [Lit.wf, IntKind.min, IntKind.max, IntKind.signed, IntKind.bits] at h; omega
theorem w64 {n : Int} (h0 : 0 ≤ n) (h1 : n ≤ 4611686018427387904) : wrap64 n = n := by unfold wrap64; omega
theorem wu64 {n : Int} (h0 : 0 ≤ n) (h1 : n ≤ 4611686018427387904) : IntKind.u64.wrap n = n := by
  simp [IntKind.wrap, IntKind.signed, IntKind.bits]; omega
theorem later_eq (a b : Int) : serial_Later.f a b = some (decide (0 < (a - b) % 4294967296 ∧ (a - b) % 4294967296 < 2147483648)) := by
  unfold serial_Later.f
  by_cases h : (a - b) % 4294967296 > 0
  · rw [if_pos h]; congr 1; rw [decide_eq_decide]; exact ⟨fun k => ⟨h, k⟩, fun k => k.2⟩
  · rw [if_neg h]; congr 1; symm; rw [decide_eq_false_iff_not]; exact fun k => h k.1
theorem apart_eq (a b : Int) : serial_Apart.f a b = some (decide ((a - b) % 4294967296 = 2147483648)) := by
  unfold serial_Apart.f; rfl
theorem awake_eq : bolterlaw06_awake.f = some true := by decide

theorem SerialLater : bolterlaw06_SerialLater.Pure := by
  intro a b ha hb
  have ⟨a0, a1⟩ := u32b ha
  have ⟨b0, b1⟩ := u32b hb
  unfold bolterlaw06_SerialLater.f
  rw [awake_eq, later_eq, later_eq, apart_eq]
  simp only [Option.bind_some, if_true]
  have e : Int.tmod (wrap64 ((wrap64 ((wrap64 (a)) - (wrap64 (b)))) + 4294967296)) 4294967296 = (a - b) % 4294967296 := by
    have h1 : wrap64 a = a := w64 a0 (by omega)
    have h2 : wrap64 b = b := w64 b0 (by omega)
    have h3 : wrap64 (a - b) = a - b := by unfold wrap64; omega
    rw [h1, h2, h3, w64 (by omega) (by omega), Int.tmod_eq_emod_of_nonneg (by omega)]
    omega
  rw [e]
  generalize hD : (a - b) % 4294967296 = D
  generalize hE : (b - a) % 4294967296 = E
  have k1 : 0 ≤ D ∧ D < 4294967296 := by omega
  have k2 : (D = 0 ∧ E = 0) ∨ (0 < D ∧ E = 4294967296 - D) := by omega
  clear hD hE e ha hb
  by_cases h : D > 0
  · rw [if_pos h]
    by_cases h2 : D < 2147483648
    · simp [h2, h, show ¬ D > 2147483648 by omega, show ¬ E < 2147483648 by omega, show ¬ D = 2147483648 by omega]
    · by_cases h3 : D = 2147483648
      · have : E = 2147483648 := by omega
        simp [h3, this]
      · simp [h2, h3, h, show D > 2147483648 by omega, show E < 2147483648 by omega, show 0 < E by omega]
  · have h4 : D = 0 := by omega
    have h5 : E = 0 := by omega
    simp [h4, h5]

end Go.Proofs.Ytbnmpopcnpjjdaa.Pure
