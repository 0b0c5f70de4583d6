/- rank.First walked, for ranks that are whole numbers; and what it is the first of. -/
import Derived.Test.YtiaageolmkplbaaRnkC
set_option linter.unusedVariables false
namespace Go.Proofs.Ytiaageolmkplbaa.Hand
open Go.RowKit Go.Proofs.YtiaageolmkplbaaW.PrintWords Go.Proofs.YtiaageolmkplbaaW.PrintLast Go.Proofs.Ytiaageolmkplbaa.PBase0 Go.Proofs.Ytiaageolmkplbaa.Flt
abbrev kC : Kd (Int × Int) := Kd.scalar (fun p => cx p.1 p.2) (fun _ => rfl)
theorem at_cx {w : World} {A : Option Addr} {n : Nat} {xs : List (Int × Int)} (h : kC.C w A n xs) (i : Nat) (h1 : i < n) : ∃ ad, A = some ad ∧ w.cell? (ad.add i) = some (cx (rdOf (0, 0) xs (i : Int)).1 (rdOf (0, 0) xs (i : Int)).2) := by
  have := ReadsOf.at_ (Kd.reads_of_C (enc := fun p : Int × Int => cx p.1 p.2) (d := ((0 : Int), (0 : Int))) (h1 := fun _ => rfl) h) (i : Int) (by omega) (by omega)
  rwa [Int.toNat_natCast] at this
abbrev at_ (rs : List (Int × Int)) (i : Int) : Int × Int := rdOf (0, 0) rs i
abbrev SmP (p : Int × Int) : Prop := Sm p.1 ∧ Sm p.2
def bP (p q : Int × Int) : Bool := betterB p.1 p.2 q.1 q.2
def bestTo (rs : List (Int × Int)) : Nat → Int
  | 0 => -1
  | j + 1 => if bestTo rs j < 0 then (j : Int) else if bP (at_ rs j) (at_ rs (bestTo rs j)) = true then (j : Int) else bestTo rs j
theorem bestTo_range (rs : List (Int × Int)) : ∀ j, (j = 0 → bestTo rs j = -1) ∧ (0 < j → 0 ≤ bestTo rs j ∧ bestTo rs j < j)
  | 0 => ⟨fun _ => rfl, fun h => absurd h (Nat.lt_irrefl 0)⟩
  | j + 1 => by
    have ih := bestTo_range rs j
    refine ⟨fun h => absurd h (by omega), fun _ => ?_⟩
    rw [bestTo]
    by_cases h0 : j = 0
    · subst h0
      rw [if_pos (by rw [ih.1 rfl]; decide)]
      exact ⟨by omega, by omega⟩
    · have := ih.2 (by omega)
      rw [if_neg (by omega)]
      split <;> omega
theorem bP_iff (p q : Int × Int) : bP p q = true ↔ (p.1 < q.1 ∨ p.1 = q.1 ∧ p.2 < q.2) := by
  unfold bP betterB
  by_cases h : p.1 = q.1
  · rw [if_pos h, decide_eq_true_iff]; omega
  · rw [if_neg h, decide_eq_true_iff]; omega
/-- The first one than which none is better. -/
theorem bestTo_first (rs : List (Int × Int)) : ∀ j, 0 < j → (∀ i : Nat, i < j → ¬ bP (at_ rs i) (at_ rs (bestTo rs j)) = true) ∧ (∀ i : Nat, (i : Int) < bestTo rs j → bP (at_ rs (bestTo rs j)) (at_ rs i) = true)
  | 0, h => absurd h (Nat.lt_irrefl 0)
  | j + 1, _ => by
    have hr := bestTo_range rs j
    rw [bestTo]
    by_cases h0 : j = 0
    · subst h0
      rw [if_pos (by rw [hr.1 rfl]; decide)]
      refine ⟨fun i hi => ?_, fun i hi => absurd hi (by omega)⟩
      obtain rfl : i = 0 := by omega
      rw [bP_iff]
      omega
    · have ih := bestTo_first rs j (by omega)
      have hb := hr.2 (by omega)
      rw [if_neg (by omega)]
      by_cases hc : bP (at_ rs j) (at_ rs (bestTo rs j)) = true
      · rw [if_pos hc]
        rw [bP_iff] at hc
        refine ⟨fun i hi => ?_, fun i hi => ?_⟩
        · rcases Nat.lt_succ_iff_lt_or_eq.1 hi with h | h
          · have := ih.1 i h
            rw [bP_iff] at this ⊢
            omega
          · subst h
            rw [bP_iff]
            omega
        · have := ih.1 i (by omega)
          rw [bP_iff] at this ⊢
          omega
      · rw [if_neg hc]
        refine ⟨fun i hi => ?_, ih.2⟩
        rcases Nat.lt_succ_iff_lt_or_eq.1 hi with h | h
        · exact ih.1 i h
        · subst h; exact hc
set_option maxHeartbeats 4000000 in
set_option maxRecDepth 100000 in
theorem rank_First.any (A : Option Addr) (c : Nat) (rs : List (Int × Int)) (w : World) (hC : kC.C w A rs.length rs) (hlen : rs.length ≤ 1000000000000) (hs : ∀ i : Nat, i < rs.length → SmP (at_ rs i)) :
    Calls Try.prog 14 #[.slice A rs.length c] w fun e w' => e = .returned (.int .i64 (bestTo rs rs.length)) ∧ w' = w := by
  have HC := Lib.hid hC
  have HS := Lib.hid hs
  clear hC hs
  go_enter Try.func14, Try.ntmps14
  go_wp2
  go_loopw [3, 8] (fun v3 v8 wr => ∃ j : Nat, v3 = .int .i64 (bestTo rs j) ∧ v8 = .int .i64 (j : Int) ∧ j ≤ rs.length ∧ wr = w) (fun _ v _ => (rs.length - (intOf v).toNat))
  case atStart => exact ⟨0, rfl, rfl, Nat.zero_le _, rfl⟩
  case round =>
    obtain ⟨j, rfl, rfl, j1, rfl⟩ := hrel
    by_cases hj : j < rs.length
    · have hj' : (j : Int) < (rs.length : Int) := by omega
      obtain ⟨ad, rfl, hcell⟩ := at_cx HC.out j hj
      have sj := HS.out j hj
      have hr := bestTo_range rs j
      by_cases h0 : j = 0
      · subst h0
        rw [show ad.add 0 = ad by unfold Addr.add; simp] at hcell
        have hb : bestTo rs 0 = -1 := rfl
        have hb1 : bestTo rs (0 + 1) = 0 := rfl
        rw [hb]
        have HR := Lib.hid hr
        have HSj := Lib.hid sj
        have H1 := Lib.hid hb1
        clear hr sj hb hb1
        go_wp2
        refine ⟨⟨1, by rw [show bestTo rs 1 = 0 from H1.out]; rfl, rfl, by omega, trivial⟩, by simp [intOf]; omega⟩
      · have hb := hr.2 (by omega)
        have hcb := (at_cx HC.out (bestTo rs j).toNat (by omega))
        obtain ⟨ad2, e2, hcell2⟩ := hcb
        cases e2
        have sb := HS.out (bestTo rs j).toNat (by omega)
        have eb : ((bestTo rs j).toNat : Int) = bestTo rs j := Int.toNat_of_nonneg hb.1
        rw [eb] at hcell2 sb
        have HB := Lib.hid (rank_Better.any (at_ rs j).1 (at_ rs j).2 (at_ rs (bestTo rs j)).1 (at_ rs (bestTo rs j)).2 sj.1 sj.2 sb.1 sb.2 wr)
        have hn : ¬ bestTo rs j < 0 := by omega
        have h0' : 0 ≤ bestTo rs j := hb.1
        have hlt : bestTo rs j < (rs.length : Int) := by omega
        have HX := Lib.hid (show bestTo rs (j + 1) = if bP (at_ rs j) (at_ rs (bestTo rs j)) = true then (j : Int) else bestTo rs j by rw [bestTo, if_neg hn])
        clear hr hb sj sb eb
        cases hbp : bP (at_ rs j) (at_ rs (bestTo rs j))
        · have HP := Lib.hid hbp
          have hx := HX.out
          rw [hbp, if_neg Bool.false_ne_true] at hx
          have HX2 := Lib.hid hx
          clear hx HX hbp
          go_wp2_with (go_at_call 15; refine HB.out.mono ?_; rintro e w5 ⟨rfl, rfl⟩; rw [show betterB (at_ rs j).1 (at_ rs j).2 (at_ rs (bestTo rs j)).1 (at_ rs (bestTo rs j)).2 = false from HP.out])
          refine ⟨⟨j + 1, by rw [HX2.out], rfl, by omega, trivial⟩, by simp [intOf]; omega⟩
        · have HP := Lib.hid hbp
          have hx := HX.out
          rw [hbp, if_pos rfl] at hx
          have HX2 := Lib.hid hx
          clear hx HX hbp
          go_wp2_with (go_at_call 15; refine HB.out.mono ?_; rintro e w5 ⟨rfl, rfl⟩; rw [show betterB (at_ rs j).1 (at_ rs j).2 (at_ rs (bestTo rs j)).1 (at_ rs (bestTo rs j)).2 = true from HP.out])
          refine ⟨⟨j + 1, by rw [HX2.out], rfl, by omega, trivial⟩, by simp [intOf]; omega⟩
    · obtain rfl : j = rs.length := by omega
      have hr := bestTo_range rs rs.length
      clear hr
      go_wp2
      go_ret
      exact ⟨rfl, rfl⟩
end Go.Proofs.Ytiaageolmkplbaa.Hand
