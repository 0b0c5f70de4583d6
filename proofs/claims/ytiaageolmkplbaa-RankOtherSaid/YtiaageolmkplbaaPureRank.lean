/- The triggers that the statements make have a rank: in plain words. -/
import Derived.Test.YtiaageolmkplbaaRnkP
import Derived.Test.YtiaageolmkplbaaPBase0x25
set_option linter.unusedVariables false
namespace Go.Proofs.Ytiaageolmkplbaa.Pure
open Go.RowKit Go.Proofs.Ytiaageolmkplbaa.NamL Go.Proofs.Ytiaageolmkplbaa.PBase0 Go.Proofs.Ytiaageolmkplbaa.Hand Go.Proofs.YtiaageolmkplbaaW.PrintWords Go.Proofs.YtiaageolmkplbaaW.PrintLast
theorem RankOther (ns : List Int) (hl : ns.length * 1 ≤ 140737488351232) (hx : ∀ x ∈ ns, (Lit.int .u8 x).wf = true) :
    ∃ (k : Nat) (nm : ByteArray) (cnt : Int), bolterlaw13_Trigger.f k 1 ns false 0 = some (1, nm, (⟨#[]⟩ : ByteArray), 0) ∧ name_Count.f k nm = some cnt ∧ 0 ≤ cnt ∧ cnt ≤ 255 := by
  obtain ⟨nm, addr, n, ⟨cnt, ⟨K1, h1⟩, h2, h3, h4⟩, h5, K2, h6⟩ := trigger_ev 1 ns false 0 hl hx (by decide) (by decide)
  obtain ⟨rfl, rfl⟩ := h5 (by decide)
  rw [show lenT cnt (⟨#[]⟩ : ByteArray) 0 = cnt from if_pos rfl] at h3
  exact ⟨K1 + K2, nm, cnt, h6 _ (by omega), h1 _ (by omega), h4, h3⟩
theorem i8b {n : Int} (h : (Lit.int .i8 n).wf = true) : -128 ≤ n ∧ n ≤ 127 := by
  simp [Lit.wf, IntKind.min, IntKind.max, IntKind.signed, IntKind.bits] at h; omega
theorem u32b {n : Int} (h : (Lit.int .u32 n).wf = true) : 0 ≤ n ∧ n ≤ 4294967295 := by
  simp [Lit.wf, IntKind.min, IntKind.max, IntKind.signed, IntKind.bits] at h; omega
theorem tmod7 {n : Int} (h : (Lit.int .u8 n).wf = true) : Int.tmod n 7 = n % 7 := Int.tmod_eq_emod_of_nonneg (u8b h).1
theorem RankOf (kind : Int) (ns : List Int) (six : Bool) (bits : Int) (hk : (Lit.int .u8 kind).wf = true) (hl : ns.length * 1 ≤ 140737488351232) (hx : ∀ x ∈ ns, (Lit.int .u8 x).wf = true) (hb : (Lit.int .u8 bits).wf = true) :
    ∃ (K : Nat) (nm addr : ByteArray) (n cnt L : Int), (∀ k, K ≤ k → bolterlaw13_Trigger.f k kind ns six bits = some (kind % 7, nm, addr, n) ∧ name_Count.f k nm = some cnt ∧ bolterlaw18_Length.f k (kind % 7) nm addr n = some L) ∧
      lenT cnt addr n = L ∧ 0 ≤ L ∧ L ≤ 255 := by
  obtain ⟨nm, addr, n, ⟨cnt, ⟨K1, h1⟩, h2, h3, h4⟩, _, K2, h6⟩ := trigger_ev kind ns six bits hl hx hk hb
  rw [tmod7 hk] at h6
  exact ⟨K1 + K2, nm, addr, n, cnt, lenT cnt addr n, fun k hk => ⟨h6 k (by omega), h1 k (by omega), length_at (h1 k (by omega))⟩, rfl, h2, h3⟩
theorem code_at {k : Nat} {kind bits : Int} {ns : List Int} {six : Bool} {r : Int × ByteArray × ByteArray × Int} (h : bolterlaw13_Trigger.f k kind ns six bits = some r) : bolterlaw13_Code_Trigger.f k kind ns six bits = some r := by
  unfold bolterlaw13_Code_Trigger.f
  rw [h]
  rfl
end Go.Proofs.Ytiaageolmkplbaa.Pure
