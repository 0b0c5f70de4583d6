/- Replies without records, and those that have what upstream answered: the program's and the statement's are alike. -/
import Derived.Test.YtdkjlbbbdjkhbaaRecA
import Derived.Test.YtdkjlbbbdjkhbaaPAllx11
import Derived.Test.YtdkjlbbbdjkhbaaPAllx26
import Derived.Test.YtdkjlbbbdjkhbaaPAllx28
import Derived.Laws.BitsLemmas
set_option linter.unusedVariables false
namespace Go.Proofs.Ytdkjlbbbdjkhbaa.RepB
open Go.RowKit Go.Proofs.Ytdkjlbbbdjkhbaa.PAll Go.Proofs.Ytdkjlbbbdjkhbaa.Hand Go.Proofs.Ytdkjlbbbdjkhbaa.RecA Go.Proofs.YtdkjlbbbdjkhbaaW.PrintWords Go.Proofs.YtdkjlbbbdjkhbaaW.PrintLast Go.Proofs.YtdkjlbbbdjkhbaaW.PrintMore
theorem and15 (x : Int) : Go.bits .and .i64 x 15 = x % 16 := by
  have h : (BitVec.ofInt 64 x &&& BitVec.ofInt 64 15).toNat = ((x % 18446744073709551616).toNat) % 16 := by
    rw [BitVec.toNat_and, show (BitVec.ofInt 64 15).toNat = 2 ^ 4 - 1 from rfl, Nat.and_two_pow_sub_one_eq_mod, BitVec.toNat_ofInt, show ((2 ^ 64 : Nat) : Int) = 18446744073709551616 from rfl]
  unfold Go.bits
  show IntKind.i64.wrap ((BitVec.ofInt 64 x &&& BitVec.ofInt 64 15).toNat : Int) = x % 16
  rw [h, IntKind.wrap_i64]
  omega
theorem tmod16 (x : Int) : Int.tmod (wrap64 (Int.tmod x 16 + 16)) 16 = x % 16 := by
  have h1 := Int.mul_tdiv_add_tmod x 16
  have h2 : -16 < Int.tmod x 16 ∧ Int.tmod x 16 < 16 := ⟨by
    rcases Int.le_total 0 x with h | h
    · have := Int.tmod_nonneg 16 h; omega
    · have h3 : Int.tmod (-x) 16 = -(Int.tmod x 16) := Int.neg_tmod x 16
      have h4 := Int.tmod_lt_of_pos (-x) (show (0 : Int) < 16 by decide)
      omega, Int.tmod_lt_of_pos x (by decide)⟩
  generalize Int.tmod x 16 = t at *
  generalize Int.tdiv x 16 = q at *
  have h5 : wrap64 (t + 16) = t + 16 := w64 (by omega) (by omega)
  rw [h5, Int.tmod_eq_emod_of_nonneg (by omega)]
  omega
theorem code16 (x : Int) : Go.bits .and .i64 x 15 = Int.tmod (wrap64 (Int.tmod x 16 + 16)) 16 := by rw [and15, tmod16]
theorem mn_comm (a : Int) : mn a 4096 = mn 4096 a := by unfold mn; (repeat' split) <;> omega
theorem same_self (h0 : Int) (h1 : Bool) (h2 : Int) (h3 h4 h5 h6 : Bool) (h7 : Int) (s8 : ByteArray) (h9 : Int) (l10 l11 l12 : List S43) (h13 : Int) (b10 : l10.length ≤ 140737488351232) (b11 : l11.length ≤ 140737488351232) (b12 : l12.length ≤ 140737488351232) :
    Ev (fun k => bolterlaw05_Same.f k h0 h1 h2 h3 h4 h5 h6 h7 s8 h9 l10 l11 l12 h13 h0 h1 h2 h3 h4 h5 h6 h7 s8 h9 l10 l11 l12 h13) true := by
  obtain ⟨K0, H0⟩ := recs_ev l10 l10 b10
  obtain ⟨K1, H1⟩ := recs_ev l11 l11 b11
  obtain ⟨K2, H2⟩ := recs_ev l12 l12 b12
  refine ⟨K0 + K1 + K2, fun k hk => ?_⟩
  dsimp only at H0 H1 H2
  show bolterlaw05_Same.f k h0 h1 h2 h3 h4 h5 h6 h7 s8 h9 l10 l11 l12 h13 h0 h1 h2 h3 h4 h5 h6 h7 s8 h9 l10 l11 l12 h13 = some true
  unfold bolterlaw05_Same.f
  rw [if_pos (by simp), if_pos (by simp), if_pos rfl, H0 k (by omega), eqRs_refl, Option.bind_some, if_pos rfl, H1 k (by omega), eqRs_refl, Option.bind_some, if_pos rfl, H2 k (by omega), eqRs_refl, Option.bind_some]
theorem base_eq (h0 : Int) (h1 : Bool) (h2 : Int) (h3 h4 h5 h6 : Bool) (h7 : Int) (s8 : ByteArray) (h9 : Int) (l10 l11 l12 : List S43) (h13 : Int) (code : Int) :
    bolterlaw21_base.f h0 h1 h2 h3 h4 h5 h6 h7 s8 h9 l10 l11 l12 h13 code = reply_Base.f h0 h1 h2 h3 h4 h5 h6 h7 s8 h9 l10 l11 l12 h13 code := by
  unfold bolterlaw21_base.f reply_Base.f
  rw [code16, mn_comm]
theorem passed_eq (h0 : Int) (h1 : Bool) (h2 : Int) (h3 h4 h5 h6 : Bool) (h7 : Int) (s8 : ByteArray) (h9 : Int) (l10 l11 l12 : List S43) (h13 : Int) (u0 : Int) (u1 : Bool) (u2 : Int) (u3 u4 u5 u6 : Bool) (u7 : Int) (s8u : ByteArray) (u9 : Int) (m10 m11 m12 : List S43) (u13 : Int) :
    bolterlaw21_passed.f h0 h1 h2 h3 h4 h5 h6 h7 s8 h9 l10 l11 l12 h13 u0 u1 u2 u3 u4 u5 u6 u7 s8u u9 m10 m11 m12 u13 = reply_Passed.f h0 h1 h2 h3 h4 h5 h6 h7 s8 h9 l10 l11 l12 h13 u0 u1 u2 u3 u4 u5 u6 u7 s8u u9 m10 m11 m12 u13 := by
  unfold bolterlaw21_passed.f reply_Passed.f
  rw [base_eq]
theorem passed_some (h0 : Int) (h1 : Bool) (h2 : Int) (h3 h4 h5 h6 : Bool) (h7 : Int) (s8 : ByteArray) (h9 : Int) (l10 l11 l12 : List S43) (h13 : Int) (u0 : Int) (u1 : Bool) (u2 : Int) (u3 u4 u5 u6 : Bool) (u7 : Int) (s8u : ByteArray) (u9 : Int) (m10 m11 m12 : List S43) (u13 : Int)
    (b10 : m10.length * 40 ≤ reachBytes) (b11 : m11.length * 40 ≤ reachBytes) (b12 : m12.length * 40 ≤ reachBytes) :
    reply_Passed.f h0 h1 h2 h3 h4 h5 h6 h7 s8 h9 l10 l11 l12 h13 u0 u1 u2 u3 u4 u5 u6 u7 s8u u9 m10 m11 m12 u13 = some (h0, true, h2, u3, false, h5, true, Go.bits .and .i64 u7 15, s8, h9, m10, m11, m12, mn h13 4096) := by
  unfold reachBytes at b10 b11 b12
  unfold reply_Passed.f reply_Base.f
  rw [Option.bind_some, if_pos (by simp only [List.length_nil]; omega), if_pos (by simp only [List.length_nil]; omega), if_pos (by simp only [List.length_nil]; omega)]
  simp only [List.nil_append]
end Go.Proofs.Ytdkjlbbbdjkhbaa.RepB
