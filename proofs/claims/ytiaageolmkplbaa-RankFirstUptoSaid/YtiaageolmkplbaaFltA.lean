/- Floats that are whole numbers of less than 53 bits: in order as the numbers are, and cut to these. -/
import Derived.Test.YtiaageolmkplbaaProg
import Derived.Laws.FloatArith
import Derived.Laws.Cover3
set_option linter.unusedVariables false
namespace Go.Proofs.Ytiaageolmkplbaa.Flt
open Ieee
abbrev fl (n : Int) : Nat := floatOfInt .f64 n
theorem cut_zero (way : Toward) (neg : Bool) (x : Nat) (hw : way = .even) : way.cut neg x 0 = x := by
  subst hw
  unfold Toward.cut
  simp only [Nat.zero_min, Nat.shiftLeft_zero, Nat.div_one, Nat.mod_one]
  simp
theorem nearest_word (neg : Bool) (m : Nat) (h0 : m ≠ 0) (h1 : m < 2 ^ 53) : double.nearest neg m 0 = double.word neg ((m.log2 + 1022) * 2 ^ 52 + m <<< (52 - m.log2)) := by
  have hL : m.log2 < 53 := (Nat.log2_lt h0).2 h1
  have hlt : m <<< (52 - m.log2) < 2 ^ 53 := by
    rw [Nat.shiftLeft_eq]
    have := Nat.lt_log2_self (n := m)
    calc m * 2 ^ (52 - m.log2) < 2 ^ (m.log2 + 1) * 2 ^ (52 - m.log2) := Nat.mul_lt_mul_of_pos_right this (Nat.two_pow_pos _)
      _ = 2 ^ 53 := by rw [← Nat.pow_add]; congr 1; omega
  unfold Format.nearest
  rw [if_neg h0]
  have hlp : double.leastPlace = -1074 := by decide
  have hfb : ((double.fractionBits : Nat) : Int) = 52 := rfl
  have hlast : max ((0 : Int) + m.log2 - (double.fractionBits : Nat)) double.leastPlace = (m.log2 : Int) - 52 := by rw [hlp, hfb]; omega
  simp only [hlast]
  rw [show ((0 : Int) - ((m.log2 : Int) - 52)).toNat = 52 - m.log2 by omega, show (((m.log2 : Int) - 52) - 0).toNat = 0 by omega, cut_zero .even neg _ rfl, hlp,
    show (((m.log2 : Int) - 52) - (-1074)).toNat = m.log2 + 1022 by omega, show double.binade = 2 ^ 52 from rfl, show double.infRung = 2047 * 2 ^ 52 from rfl]
  rw [Nat.min_eq_left (by omega)]
theorem read_word (neg : Bool) (m : Nat) (h0 : m ≠ 0) (h1 : m < 2 ^ 53) :
    double.read (double.word neg ((m.log2 + 1022) * 2 ^ 52 + m <<< (52 - m.log2))) = .number neg (m <<< (52 - m.log2)) (-((52 - m.log2 : Nat) : Int)) := by
  have hL : m.log2 < 53 := (Nat.log2_lt h0).2 h1
  have hlt : m <<< (52 - m.log2) < 2 ^ 53 := by
    rw [Nat.shiftLeft_eq]
    have := Nat.lt_log2_self (n := m)
    calc m * 2 ^ (52 - m.log2) < 2 ^ (m.log2 + 1) * 2 ^ (52 - m.log2) := Nat.mul_lt_mul_of_pos_right this (Nat.two_pow_pos _)
      _ = 2 ^ 53 := by rw [← Nat.pow_add]; congr 1; omega
  have hle : 2 ^ 52 ≤ m <<< (52 - m.log2) := by
    rw [Nat.shiftLeft_eq]
    have := Nat.log2_self_le h0
    calc 2 ^ 52 = 2 ^ m.log2 * 2 ^ (52 - m.log2) := by rw [← Nat.pow_add]; congr 1; omega
      _ ≤ m * 2 ^ (52 - m.log2) := Nat.mul_le_mul_right _ this
  generalize m <<< (52 - m.log2) = x at hlt hle
  generalize m.log2 = L at hL
  have hr : (L + 1022) * 2 ^ 52 + x < 2 ^ 63 := by omega
  have hneg : (double.word neg ((L + 1022) * 2 ^ 52 + x) / double.signWeight % 2 == 1) = neg := by
    rw [show double.signWeight = 2 ^ 63 from rfl]
    unfold Format.word
    rw [show double.signWeight = 2 ^ 63 from rfl]
    cases neg
    · rw [if_neg Bool.false_ne_true, Nat.div_eq_of_lt hr]; rfl
    · rw [if_pos rfl, Nat.add_comm, Nat.add_div_right _ (by decide), Nat.div_eq_of_lt hr]; rfl
  have hrung : double.word neg ((L + 1022) * 2 ^ 52 + x) % double.signWeight = (L + 1022) * 2 ^ 52 + x := by
    rw [show double.signWeight = 2 ^ 63 from rfl]
    unfold Format.word
    rw [show double.signWeight = 2 ^ 63 from rfl]
    cases neg
    · rw [if_neg Bool.false_ne_true, Nat.mod_eq_of_lt hr]
    · rw [if_pos rfl, Nat.add_mod_left, Nat.mod_eq_of_lt hr]
  unfold Format.read
  simp only [hneg, hrung]
  rw [show double.binade = 2 ^ 52 from rfl, show double.infRung = 2047 * 2 ^ 52 from rfl, if_neg (by omega), if_pos (by omega), show double.leastPlace = -1074 by decide]
  have hd : ((L + 1022) * 2 ^ 52 + x) / 2 ^ 52 = L + 1023 := by omega
  have hm : ((L + 1022) * 2 ^ 52 + x) % 2 ^ 52 = x - 2 ^ 52 := by omega
  rw [hd, hm, show 2 ^ 52 + (x - 2 ^ 52) = x by omega, show (-1074 : Int) + ((L + 1023 - 1 : Nat) : Int) = -((52 - L : Nat) : Int) by omega]
/-- What is read of a whole number's float. -/
theorem read_fl (n : Int) (h : n.natAbs < 2 ^ 53) : ∃ e : Nat, FloatKind.f64.format.read (fl n) = .number (decide (n < 0)) (n.natAbs <<< e) (-(e : Int)) ∧ (n ≠ 0 → e + n.natAbs.log2 = 52) := by
  by_cases h0 : n = 0
  · subst h0
    exact ⟨1074, by decide +kernel, fun h => absurd rfl h⟩
  · have hn : n.natAbs ≠ 0 := by omega
    have hL : n.natAbs.log2 < 53 := (Nat.log2_lt hn).2 h
    refine ⟨52 - n.natAbs.log2, ?_, fun _ => by omega⟩
    show double.read (double.nearest _ _ 0) = _
    rw [nearest_word _ _ hn h]
    exact read_word _ _ hn h
theorem signed_eq (n : Int) (e u : Nat) : signed (decide (n < 0)) (n.natAbs <<< e) u = n * 2 ^ (e + u) := by
  unfold signed
  simp only [Nat.shiftLeft_eq]
  have hp : (((n.natAbs * 2 ^ e * 2 ^ u : Nat)) : Int) = (n.natAbs : Int) * 2 ^ (e + u) := by
    rw [Nat.mul_assoc, ← Nat.pow_add]
    push_cast
    rfl
  rw [hp]
  by_cases h : n < 0
  · rw [decide_eq_true h, if_pos rfl, ← Int.neg_mul]
    congr 1
    omega
  · rw [decide_eq_false h, if_neg Bool.false_ne_true]
    congr 1
    omega
theorem order_fl (a b : Int) (ha : a.natAbs < 2 ^ 53) (hb : b.natAbs < 2 ^ 53) : FloatKind.f64.format.order (fl a) (fl b) = some (compare a b) := by
  obtain ⟨e, he, _⟩ := read_fl a ha
  obtain ⟨d, hd, _⟩ := read_fl b hb
  unfold Format.order
  rw [he, hd]
  show some (compare _ _) = _
  rw [signed_eq, signed_eq]
  have e1 : e + (-(e : Int) - min (-(e : Int)) (-(d : Int))).toNat = max e d := by omega
  have e2 : d + (-(d : Int) - min (-(e : Int)) (-(d : Int))).toNat = max e d := by omega
  rw [e1, e2]
  have hp : (0 : Int) < 2 ^ max e d := Int.pow_pos (by decide)
  congr 1
  generalize (2 : Int) ^ max e d = p at hp
  rcases Int.lt_trichotomy a b with h | h | h
  · rw [Std.compare_eq_lt.2 h, Std.compare_eq_lt.2 (Int.mul_lt_mul_of_pos_right h hp)]
  · subst h
    rw [Std.compare_self, Std.compare_self]
  · rw [Std.compare_eq_gt.2 h, Std.compare_eq_gt.2 (Int.mul_lt_mul_of_pos_right h hp)]
theorem toInt_fl (n : Int) (h : n.natAbs < 2 ^ 53) : (FloatKind.f64.decode (fl n)).toInt .zero = some n := by
  obtain ⟨e, he, hne⟩ := read_fl n h
  unfold FloatKind.decode
  rw [he]
  unfold Datum.toInt Datum.integral
  dsimp only
  congr 1
  have h1 : (-(e : Int)).toNat = 0 := by omega
  have h2 : (- -(e : Int)).toNat = e := by omega
  rw [h1, h2, Nat.shiftLeft_zero]
  have hcut : Toward.zero.cut (decide (n < 0)) (n.natAbs <<< e) e = n.natAbs := by
    by_cases h0 : n = 0
    · subst h0
      unfold Toward.cut
      simp
    · have hn : n.natAbs ≠ 0 := by omega
      have hle := hne h0
      unfold Toward.cut
      dsimp only
      have hx : e ≤ (n.natAbs <<< e).log2 + 2 := by
        have : 2 ^ e ≤ n.natAbs <<< e := by
          rw [Nat.shiftLeft_eq]
          exact Nat.le_mul_of_pos_left _ (by omega)
        have hne0 : n.natAbs <<< e ≠ 0 := by
          have := Nat.two_pow_pos e
          omega
        have := (Nat.le_log2 hne0).2 this
        omega
      rw [Nat.min_eq_left hx, Nat.shiftLeft_eq, Nat.shiftLeft_eq, Nat.one_mul, Nat.mul_div_cancel _ (Nat.two_pow_pos e)]
      simp
  rw [hcut]
  unfold signed
  rw [Nat.shiftLeft_zero]
  by_cases hn : n < 0
  · rw [decide_eq_true hn, if_pos rfl]; omega
  · rw [decide_eq_false hn, if_neg Bool.false_ne_true]; omega
theorem cut_fl (n : Int) (h : n.natAbs < 2 ^ 53) : floatToIntVal .f64 (fl n) .i64 = some n := by
  unfold floatToIntVal
  rw [toInt_fl n h]
  dsimp only
  have h1 : IntKind.i64.min = -9223372036854775808 := by decide
  have h2 : IntKind.i64.max = 9223372036854775807 := by decide
  rw [if_pos (by rw [h1, h2]; omega)]
theorem fl_eq (a b : Int) (ha : a.natAbs < 2 ^ 53) (hb : b.natAbs < 2 ^ 53) : (FloatKind.f64.format.order (fl a) (fl b) == some .eq) = decide (a = b) := by
  rw [order_fl a b ha hb]
  rcases Int.lt_trichotomy a b with h | h | h
  · rw [Std.compare_eq_lt.2 h, decide_eq_false (by omega)]; rfl
  · subst h; rw [Std.compare_self, decide_eq_true rfl]; rfl
  · rw [Std.compare_eq_gt.2 h, decide_eq_false (by omega)]; rfl
theorem fl_ne (a b : Int) (ha : a.natAbs < 2 ^ 53) (hb : b.natAbs < 2 ^ 53) : (FloatKind.f64.format.order (fl a) (fl b) != some .eq) = decide (a ≠ b) := by
  unfold bne
  rw [fl_eq a b ha hb]
  by_cases h : a = b <;> simp [h]
theorem fl_lt (a b : Int) (ha : a.natAbs < 2 ^ 53) (hb : b.natAbs < 2 ^ 53) : (FloatKind.f64.format.order (fl a) (fl b) == some .lt) = decide (a < b) := by
  rw [order_fl a b ha hb]
  rcases Int.lt_trichotomy a b with h | h | h
  · rw [Std.compare_eq_lt.2 h, decide_eq_true h]; rfl
  · subst h; rw [Std.compare_self, decide_eq_false (by omega)]; rfl
  · rw [Std.compare_eq_gt.2 h, decide_eq_false (by omega)]; rfl
end Go.Proofs.Ytiaageolmkplbaa.Flt
