/- Records held against each other, in plain words. -/
import Derived.Test.YtdkjlbbbdjkhbaaPAllx25
import Derived.Lib.Strings
set_option linter.unusedVariables false
namespace Go.Proofs.Ytdkjlbbbdjkhbaa.RecA
open Go.RowKit Go.Proofs.Ytdkjlbbbdjkhbaa.PAll Go.Proofs.Ytdkjlbbbdjkhbaa.Hand Go.Proofs.YtdkjlbbbdjkhbaaW.PrintWords Go.Proofs.YtdkjlbbbdjkhbaaW.PrintLast
theorem w64 {n : Int} (h0 : 0 ≤ n) (h1 : n ≤ 4611686018427387904) : wrap64 n = n := by unfold wrap64; omega
def eqR (x y : S43) : Bool := x.f0.toList == y.f0.toList && (x.f1 == y.f1 && (x.f2 == y.f2 && x.f3.toList == y.f3.toList))
def eqRs : List S43 → List S43 → Bool
  | [], [] => true
  | x :: xs, y :: ys => eqR x y && eqRs xs ys
  | _, _ => false
theorem eqR_refl (x : S43) : eqR x x = true := by simp [eqR]
theorem eqRs_refl : ∀ l, eqRs l l = true
  | [] => rfl
  | x :: xs => by rw [eqRs, eqR_refl, eqRs_refl xs]; rfl
theorem eqRs_length : ∀ {xs ys : List S43}, xs.length ≠ ys.length → eqRs xs ys = false
  | [], [], h => absurd rfl h
  | [], _ :: _, _ => rfl
  | _ :: _, [], _ => rfl
  | x :: xs, y :: ys, h => by rw [eqRs, eqRs_length (xs := xs) (ys := ys) (by simpa using h), Bool.and_false]
theorem rdx (l : List S43) (i : Nat) (h : i < l.length) : rd_T43 l (i : Int) = l[i] := by simp [rd_T43, List.getD_eq_getElem?_getD, h]
theorem not_eqR (x y : S43) : (!(x.f0.toList == y.f0.toList) || (!(x.f1 == y.f1) || (!(x.f2 == y.f2) || (!(x.f3.toList == y.f3.toList))))) = !(eqR x y) := by
  unfold eqR
  cases (x.f0.toList == y.f0.toList) <;> cases (x.f1 == y.f1) <;> cases (x.f2 == y.f2) <;> cases (x.f3.toList == y.f3.toList) <;> rfl
theorem same_loop (xs ys : List S43) (hl : xs.length = ys.length) (hb : xs.length ≤ 140737488351232) (d : Nat) :
    ∀ (k i : Nat), xs.length = i + d → d < k → bolterlaw05_SameRecords.l0 k xs ys (xs.length : Int) i = some (eqRs (xs.drop i) (ys.drop i)) := by
  induction d with
  | zero =>
    intro k i hd hk
    obtain ⟨k, rfl⟩ : ∃ m, k = m + 1 := ⟨k - 1, by omega⟩
    simp only [bolterlaw05_SameRecords.l0]
    rw [if_neg (by omega), List.drop_of_length_le (by omega), List.drop_of_length_le (by omega)]
    rfl
  | succ d ih =>
    intro k i hd hk
    obtain ⟨k, rfl⟩ : ∃ m, k = m + 1 := ⟨k - 1, by omega⟩
    simp only [bolterlaw05_SameRecords.l0]
    have hx : i < xs.length := by omega
    have hy : i < ys.length := by omega
    rw [if_pos (by omega), if_pos (by omega), if_pos (by omega), if_pos (by omega), rdx xs i hx, rdx ys i hy, List.drop_eq_getElem_cons hx, List.drop_eq_getElem_cons hy, not_eqR, eqRs]
    cases e : eqR xs[i] ys[i]
    · rw [if_pos (show (!false) = true from rfl)]; rfl
    · rw [if_neg (by decide), w64 (n := (i : Int) + 1) (by omega) (by omega)]
      have := ih k (i + 1) (by omega) (by omega)
      rw [show ((i : Int) + 1) = ((i + 1 : Nat) : Int) from rfl, this]
      rfl
theorem recs_ev (xs ys : List S43) (hb : xs.length ≤ 140737488351232) : Ev (fun k => bolterlaw05_SameRecords.f k xs ys) (eqRs xs ys) := by
  refine Ev.of (k := xs.length + 1) (fun k => bolterlaw05_SameRecords.mono xs ys k) ?_
  unfold bolterlaw05_SameRecords.f
  by_cases hl : (xs.length : Int) = (ys.length : Int)
  · rw [if_pos hl]
    have := same_loop xs ys (by omega) hb xs.length (xs.length + 1) 0 (by omega) (by omega)
    simpa using this
  · rw [if_neg hl, eqRs_length (by omega)]
end Go.Proofs.Ytdkjlbbbdjkhbaa.RecA
