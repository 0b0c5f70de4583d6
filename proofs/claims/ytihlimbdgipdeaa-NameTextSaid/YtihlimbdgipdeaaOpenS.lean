-- By hand: a []string argument, opened as a row that is read.
import Derived.Test.YtihlimbdgipdeaaHandV
import Derived.SliceStrings
import Derived.SizedLaws
set_option linter.unusedVariables false
namespace Go.Proofs.Ytihlimbdgipdeaa.OpenS
open Go.ChangeShapes Go.WideShapes Go.RowKit Go.Proofs.YtihlimbdgipdeaaW.PrintWords
theorem cells9 : Try.prog.cellsOf 9 = 1 := by kernel_rfl
theorem bytes9 : Try.prog.bytesOf 9 = 16 := by kernel_rfl
theorem laidOut : laidOutB Try.prog = true := by kernel_rfl
/-- The value, as the walk's contract wants it; and its length's bound. -/
theorem opened {H : Type} {enc : TypeId × Value → H} {W : World} {base : Nat} {spare : Nat → Bool} {held : Bool} {v : Value} {d : DataW H} {p : List MemPlace} {ts : List TypeId} {ds : List (DataW H)} {j : Nat}
    (hsz : (DataW.weightsEach Try.prog ts ds).all (· ≤ reachBytes) = true) (ht : ts[j]? = some 28) (hd : ds[j]? = some d) (hv : Value.okWide Try.prog W .any base 28 v)
    (h : DataW.Trod enc Try.prog W 0 spare held 28 v d p) : ∃ (A : Option Addr) (c : Nat) (ls : List ByteArray), v = .slice A ls.length c ∧ Kd.C Kd.string W A ls.length ls ∧ ls.length ≤ c ∧ ls.length * 16 ≤ 140737488351232 := by
  obtain ⟨a0, len, cap, rfl⟩ := okWide_slice Try.underlying28 hv
  obtain ⟨fuel, hf⟩ := h
  rcases open_strings Try.underlying28 Try.underlying9 cells9 hf with ⟨hcs, hx⟩ | ⟨a, len', cap', ss, hcs, _, hl, hm, hz, hx, hcell, hs⟩
  · simp [Value.cells] at hcs
    obtain ⟨rfl, rfl, rfl⟩ := hcs
    refine ⟨none, 0, [], rfl, ?_, Nat.le_refl _, by simp⟩
    exact Kd.C_of_reads (enc := Value.string) (d := ByteArray.empty) ⟨rfl, by simp, fun h => absurd h (by simp)⟩
  · simp [Value.cells] at hcs
    obtain ⟨rfl, rfl, rfl⟩ := hcs
    obtain ⟨hx, _⟩ := Prod.mk.inj hx
    subst hx
    have z := sized_slice hsz ht hd Try.underlying28
    rw [bytes9] at z
    have hlen : len ≤ ss.length := by rw [hz]; split <;> omega
    have ht' : (ss.take len).length = len := by rw [List.length_take]; omega
    refine ⟨some a, cap, ss.take len, by rw [ht'], ?_, by rw [ht']; exact hl, ?_⟩
    · rw [ht']
      refine Kd.C_of_reads (enc := Value.string) (d := ByteArray.empty) ⟨ht', by unfold maxLen at hm; omega, fun _ => ⟨a, rfl, fun i hi => ?_⟩⟩
      rw [hcell i (by omega)]
      congr 2
      simp [List.getD_eq_getElem?_getD, hi]
    · simp only [strs, List.length_map, List.length_take, List.length_drop, reachBytes] at z
      rw [ht']
      omega
end Go.Proofs.Ytihlimbdgipdeaa.OpenS
