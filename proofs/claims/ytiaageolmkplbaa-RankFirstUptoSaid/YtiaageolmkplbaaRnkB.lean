/- rank.Of walked: a zone, a trigger's kind and how long it is. -/
import Derived.Test.YtiaageolmkplbaaRnkA
set_option linter.unusedVariables false
namespace Go.Proofs.Ytiaageolmkplbaa.Hand
open Go.RowKit Go.Proofs.YtiaageolmkplbaaW.PrintWords Go.Proofs.YtiaageolmkplbaaW.PrintLast Go.Proofs.Ytiaageolmkplbaa.PBase0 Go.Proofs.Ytiaageolmkplbaa.Flt
def rankI (kind len : Int) : Int := if 0 ≤ kind ∧ kind < 7 then 256 * kind + 255 - len else 1792
def lenT (cnt : Int) (addr : ByteArray) (bits : Int) : Int := if addr = (⟨#[]⟩ : ByteArray) then cnt else bits
theorem full_text {s : ByteArray} (h : ¬ s = (⟨#[]⟩ : ByteArray)) : s.toList.isEmpty = false := by
  rw [Lib.toList_data, Bool.eq_false_iff]
  intro e
  refine h ?_
  obtain ⟨d⟩ := s
  congr 1
  simpa using e
theorem steps_rd (j : Nat) (h : j < 7) : rd ([0, 1, 2, 3, 4, 5, 6] : List Int) (j : Int) = j := by
  rcases (show j = 0 ∨ j = 1 ∨ j = 2 ∨ j = 3 ∨ j = 4 ∨ j = 5 ∨ j = 6 by omega) with rfl | rfl | rfl | rfl | rfl | rfl | rfl <;> decide
set_option maxHeartbeats 4000000 in
set_option maxRecDepth 100000 in
theorem rank_Of.any (k : Nat) (zone kind : Int) (nm addr : ByteArray) (bits cnt : Int) (w : World) (hC0 : name_Count.f k nm = some cnt) (hl0 : 0 ≤ lenT cnt addr bits) (hl1 : lenT cnt addr bits ≤ 255) :
    Calls Try.prog 9 #[.int .i64 zone, .agg #[.int .i64 kind, .string nm, .string addr, .int .i64 bits]] w fun e w' => e = .returned (cx zone (rankI kind (lenT cnt addr bits))) ∧ Below w.heap.size w w' := by
  have HC := Lib.hid hC0
  clear hC0
  by_cases ha : addr = (⟨#[]⟩ : ByteArray)
  · have hlen : lenT cnt addr bits = cnt := if_pos ha
    rw [hlen] at hl0 hl1 ⊢
    subst ha
    clear hlen
    go_enter Try.func9, Try.ntmps9
    go_wp2_with (first
      | (go_at_call 20; refine (name_Count.calls k nm cnt _ HC.out).mono ?_; rintro e w1 ⟨rfl, hb⟩; have B1 := Lib.hid (blk_below (g := w.heap.size) (o := .cells #[.int .i64 kind, .string nm, .string (⟨#[]⟩ : ByteArray), .int .i64 bits] 30) (blk_new w _) hb); have D1 := Lib.hid (below_step (below_alloc (Below.refl w.heap.size w) _) hb); have cA : w1.cell? ⟨w.heap.size, 2, none⟩ = some (.string (⟨#[]⟩ : ByteArray)) := (blk_cell B1.out 2).trans rfl; have cB : w1.cell? ⟨w.heap.size, 3, none⟩ = some (.int .i64 bits) := (blk_cell B1.out 3).trans rfl; clear hb)
      | (go_at_call 21; refine (rank_steps.calls _ _ rfl).mono ?_; rintro e w2 ⟨v, rfl, hR, hb⟩; obtain ⟨A, c, rfl, hc, hCs⟩ := Kd.R_reads hR; have B2 := Lib.hid (blk_below (g := w.heap.size) B1.out hb); have D2 := Lib.hid (below_step D1.out hb); have HCs := Lib.hid hCs; clear hb hR hCs cA cB))
    go_loopw [20] (fun v20 wr => ∃ j : Nat, v20 = .int .i64 (j : Int) ∧ j ≤ 7 ∧ Hid (∀ i : Nat, i < j → kind ≠ (i : Int)) ∧ wr = w2) (fun v _ => (7 - (intOf v).toNat))
    case atStart => exact ⟨0, rfl, by omega, Lib.hid (fun i hi => absurd hi (Nat.not_lt_zero i)), rfl⟩
    case round =>
      obtain ⟨j, rfl, j1, HN, rfl⟩ := hrel
      by_cases hj : j < 7
      · have hj' : (j : Int) < 7 := by omega
        obtain ⟨ad, rfl, hcell⟩ := Kd.at_int HCs.out (j : Int) (by omega) (by simpa using hj')
        rw [steps_rd j hj, Int.toNat_natCast] at hcell
        by_cases hk : kind = (j : Int)
        · subst hk
          have ck := (blk_cell B2.out 0).trans (show _ = some (Value.int .i64 (j : Int)) from rfl)
          clear j1
          go_wp2
          go_ret
          refine ⟨?_, D2.out⟩
          have e1 : rankI (j : Int) cnt = 256 * (j : Int) + 255 - cnt := if_pos ⟨by omega, hj'⟩
          rw [e1]
          show Ending.returned (Value.complex .f64 (floatOfInt .f64 zone) (floatOfInt .f64 ((j : Int) * 256 + 256 - 1 - cnt))) = _
          rw [show (j : Int) * 256 + 256 - 1 - cnt = 256 * (j : Int) + 255 - cnt by omega]
        · have ck := (blk_cell B2.out 0).trans (show _ = some (Value.int .i64 kind) from rfl)
          have eb : ((j : Int) == kind) = false := beq_eq_false_iff_ne.2 (Ne.symm hk)
          have HK := Lib.hid hk
          clear hk
          go_wp2
          refine ⟨⟨j + 1, rfl, by omega, Lib.hid (fun i hi => ?_), trivial⟩, by simp [intOf]; omega⟩
          rcases Nat.lt_succ_iff_lt_or_eq.1 hi with h | h
          · exact HN.out i h
          · subst h; exact HK.out
      · obtain rfl : j = 7 := by omega
        have e1 : rankI kind cnt = 1792 := if_neg (fun h => HN.out kind.toNat (by omega) (by omega))
        clear hj j1
        go_wp2_with (go_at_call 21; refine (rank_steps.calls _ _ rfl).mono ?_; rintro e w4 ⟨v, rfl, hR, hb⟩; obtain ⟨A4, c4, rfl, hc4, hCs4⟩ := Kd.R_reads hR; have D4 := Lib.hid (below_step D2.out hb); clear hb hR hCs4 hc4)
        go_ret
        refine ⟨?_, D4.out⟩
        rw [e1]
        rfl
  · have hlen : lenT cnt addr bits = bits := if_neg ha
    rw [hlen] at hl0 hl1 ⊢
    have n1 := full_text ha
    clear hlen ha
    go_enter Try.func9, Try.ntmps9
    go_wp2_with (first
      | (go_at_call 20; refine (name_Count.calls k nm cnt _ HC.out).mono ?_; rintro e w1 ⟨rfl, hb⟩; have B1 := Lib.hid (blk_below (g := w.heap.size) (o := .cells #[.int .i64 kind, .string nm, .string addr, .int .i64 bits] 30) (blk_new w _) hb); have D1 := Lib.hid (below_step (below_alloc (Below.refl w.heap.size w) _) hb); have cA : w1.cell? ⟨w.heap.size, 2, none⟩ = some (.string addr) := (blk_cell B1.out 2).trans rfl; have cB : w1.cell? ⟨w.heap.size, 3, none⟩ = some (.int .i64 bits) := (blk_cell B1.out 3).trans rfl; clear hb)
      | (go_at_call 21; refine (rank_steps.calls _ _ rfl).mono ?_; rintro e w2 ⟨v, rfl, hR, hb⟩; obtain ⟨A, c, rfl, hc, hCs⟩ := Kd.R_reads hR; have B2 := Lib.hid (blk_below (g := w.heap.size) B1.out hb); have D2 := Lib.hid (below_step D1.out hb); have HCs := Lib.hid hCs; clear hb hR hCs cA cB))
    go_loopw [20] (fun v20 wr => ∃ j : Nat, v20 = .int .i64 (j : Int) ∧ j ≤ 7 ∧ Hid (∀ i : Nat, i < j → kind ≠ (i : Int)) ∧ wr = w2) (fun v _ => (7 - (intOf v).toNat))
    case atStart => exact ⟨0, rfl, by omega, Lib.hid (fun i hi => absurd hi (Nat.not_lt_zero i)), rfl⟩
    case round =>
      obtain ⟨j, rfl, j1, HN, rfl⟩ := hrel
      by_cases hj : j < 7
      · have hj' : (j : Int) < 7 := by omega
        obtain ⟨ad, rfl, hcell⟩ := Kd.at_int HCs.out (j : Int) (by omega) (by simpa using hj')
        rw [steps_rd j hj, Int.toNat_natCast] at hcell
        by_cases hk : kind = (j : Int)
        · subst hk
          have ck := (blk_cell B2.out 0).trans (show _ = some (Value.int .i64 (j : Int)) from rfl)
          clear j1
          go_wp2
          go_ret
          refine ⟨?_, D2.out⟩
          have e1 : rankI (j : Int) bits = 256 * (j : Int) + 255 - bits := if_pos ⟨by omega, hj'⟩
          rw [e1]
          show Ending.returned (Value.complex .f64 (floatOfInt .f64 zone) (floatOfInt .f64 ((j : Int) * 256 + 256 - 1 - bits))) = _
          rw [show (j : Int) * 256 + 256 - 1 - bits = 256 * (j : Int) + 255 - bits by omega]
        · have ck := (blk_cell B2.out 0).trans (show _ = some (Value.int .i64 kind) from rfl)
          have eb : ((j : Int) == kind) = false := beq_eq_false_iff_ne.2 (Ne.symm hk)
          have HK := Lib.hid hk
          clear hk
          go_wp2
          refine ⟨⟨j + 1, rfl, by omega, Lib.hid (fun i hi => ?_), trivial⟩, by simp [intOf]; omega⟩
          rcases Nat.lt_succ_iff_lt_or_eq.1 hi with h | h
          · exact HN.out i h
          · subst h; exact HK.out
      · obtain rfl : j = 7 := by omega
        have e1 : rankI kind bits = 1792 := if_neg (fun h => HN.out kind.toNat (by omega) (by omega))
        clear hj j1
        go_wp2_with (go_at_call 21; refine (rank_steps.calls _ _ rfl).mono ?_; rintro e w4 ⟨v, rfl, hR, hb⟩; obtain ⟨A4, c4, rfl, hc4, hCs4⟩ := Kd.R_reads hR; have D4 := Lib.hid (below_step D2.out hb); clear hb hR hCs4 hc4)
        go_ret
        refine ⟨?_, D4.out⟩
        rw [e1]
        rfl
end Go.Proofs.Ytiaageolmkplbaa.Hand
