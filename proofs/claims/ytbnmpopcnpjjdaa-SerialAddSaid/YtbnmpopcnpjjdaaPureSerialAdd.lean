/- A serial number further on is later, if it is not too far: for all pairs of numbers of 32 bits. -/
import Derived.Test.YtbnmpopcnpjjdaaPSerialAddx1
namespace Go.Proofs.Ytbnmpopcnpjjdaa.Pure
open Go.RowKit Go.Proofs.Ytbnmpopcnpjjdaa.PSerialAdd Go.Proofs.YtbnmpopcnpjjdaaW.PrintWords Go.Proofs.YtbnmpopcnpjjdaaW.PrintLast

theorem u32b {n : Int} (h : (Lit.int .u32 n).wf = true) : 0 ≤ n ∧ n ≤ 4294967295 := by
  simp [Lit.wf, IntKind.min, IntKind.max, IntKind.signed, IntKind.bits] at h; omega
theorem u16b {n : Int} (h : (Lit.int .u16 n).wf = true) : 0 ≤ n ∧ n ≤ 65535 := by
  simp [Lit.wf, IntKind.min, IntKind.max, IntKind.signed, IntKind.bits] at h; omega
theorem w64 {n : Int} (h0 : 0 ≤ n) (h1 : n ≤ 4611686018427387904) : wrap64 n = n := by unfold wrap64; omega
theorem wu64 {n : Int} (h0 : 0 ≤ n) (h1 : n ≤ 4611686018427387904) : IntKind.u64.wrap n = n := by
  simp [IntKind.wrap, IntKind.signed, IntKind.bits]; omega
theorem later_eq (a b : Int) : serial_Later.f a b = some (decide (0 < (a - b) % 4294967296 ∧ (a - b) % 4294967296 < 2147483648)) := by
  unfold serial_Later.f
  by_cases h : (a - b) % 4294967296 > 0
  · rw [if_pos h]; congr 1; rw [decide_eq_decide]; exact ⟨fun k => ⟨h, k⟩, fun k => k.2⟩
  · rw [if_neg h]; congr 1; symm; rw [decide_eq_false_iff_not]; exact fun k => h k.1
theorem apart_eq (a b : Int) : serial_Apart.f a b = some (decide ((a - b) % 4294967296 = 2147483648)) := by
  unfold serial_Apart.f; rfl
theorem awake_eq : bolterlaw06_awake.f = some true := by decide

theorem SerialAdd : bolterlaw06_SerialAdd.Pure := by
  intro a n ha hn
  have ⟨a0, a1⟩ := u32b ha
  have ⟨b0, b1⟩ := u32b hn
  unfold bolterlaw06_SerialAdd.f serial_Add.f
  rw [awake_eq]
  simp only [later_eq, Option.bind_some, if_true]
  by_cases h : n ≥ 2147483648
  · simp [h]
  · rw [if_neg h]
    simp only [Option.bind_some, if_true]
    rw [if_neg h]
    rw [wu64 a0 (by omega), wu64 b0 (by omega), wu64 (by omega) (by omega), wu64 (by omega) (by omega), Int.tmod_eq_emod_of_nonneg (by omega), if_pos rfl]
    have e : ((a + n) % 4294967296 - a) % 4294967296 = n := by omega
    rw [e]
    congr 1
    rw [beq_iff_eq, decide_eq_decide]
    omega

end Go.Proofs.Ytbnmpopcnpjjdaa.Pure
