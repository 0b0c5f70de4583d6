/- Which of two serial numbers is later does not hang on from where both are counted: for all three numbers of 32 bits. -/
import Derived.Test.YtbnmpopcnpjjdaaPSerialTurnx1
namespace Go.Proofs.Ytbnmpopcnpjjdaa.Pure
open Go.RowKit Go.Proofs.Ytbnmpopcnpjjdaa.PSerialTurn Go.Proofs.YtbnmpopcnpjjdaaW.PrintWords Go.Proofs.YtbnmpopcnpjjdaaW.PrintLast

theorem u32b {n : Int} (h : (Lit.int .u32 n).wf = true) : 0 ≤ n ∧ n ≤ 4294967295 := by
  simp [Lit.wf, IntKind.min, IntKind.max, IntKind.signed, IntKind.bits] at h; omega
theorem u16b {n : Int} (h : (Lit.int .u16 n).wf = true) : 0 ≤ n ∧ n ≤ 65535 := by
  simp [Lit.wf, IntKind.min, IntKind.max, IntKind.signed, IntKind.bits] at h; omega
theorem w64 {n : Int} (h0 : 0 ≤ n) (h1 : n ≤ 4611686018427387904) : wrap64 n = n := by unfold wrap64; omega
theorem wu64 {n : Int} (h0 : 0 ≤ n) (h1 : n ≤ 4611686018427387904) : IntKind.u64.wrap n = n := by
  simp [IntKind.wrap, IntKind.signed, IntKind.bits]; omega
theorem later_eq (a b : Int) : serial_Later.f a b = some (decide (0 < (a - b) % 4294967296 ∧ (a - b) % 4294967296 < 2147483648)) := by
  unfold serial_Later.f
  by_cases h : (a - b) % 4294967296 > 0
  · rw [if_pos h]; congr 1; rw [decide_eq_decide]; exact ⟨fun k => ⟨h, k⟩, fun k => k.2⟩
  · rw [if_neg h]; congr 1; symm; rw [decide_eq_false_iff_not]; exact fun k => h k.1
theorem apart_eq (a b : Int) : serial_Apart.f a b = some (decide ((a - b) % 4294967296 = 2147483648)) := by
  unfold serial_Apart.f; rfl
theorem awake_eq : bolterlaw06_awake.f = some true := by decide

theorem SerialTurn : bolterlaw06_SerialTurn.Pure := by
  intro a b n _ _ _
  unfold bolterlaw06_SerialTurn.f
  rw [awake_eq]
  simp only [later_eq, apart_eq, Option.bind_some, if_true]
  have e1 : ((a + n) % 4294967296 - (b + n) % 4294967296) % 4294967296 = (a - b) % 4294967296 := by omega
  have e2 : ((b + n) % 4294967296 - (a + n) % 4294967296) % 4294967296 = (b - a) % 4294967296 := by omega
  have e3 : decide ((a - b) % 4294967296 = 2147483648) = decide ((b - a) % 4294967296 = 2147483648) := by
    rw [decide_eq_decide]; omega
  rw [e1, e2, e3]
  simp

end Go.Proofs.Ytbnmpopcnpjjdaa.Pure
