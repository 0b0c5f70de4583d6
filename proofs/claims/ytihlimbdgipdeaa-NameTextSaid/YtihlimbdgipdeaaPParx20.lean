-- Written by a program of this session (wip/tools/drive.py over the kit's printer): functions, contracts and rows (Par).
import Derived.Test.YtihlimbdgipdeaaPParx0
namespace Go.Proofs.Ytihlimbdgipdeaa.PPar
open Go.RowKit Go.Proofs.YtihlimbdgipdeaaW.PrintWords Go.Proofs.YtihlimbdgipdeaaW.PrintLast Go.Proofs.YtihlimbdgipdeaaW.PrintMore
attribute [local go_sem] max2_int min2_int max_two min_two max_three min_three max_four min_four   -- for this text's walks alone
open Go.Proofs.Ytihlimbdgipdeaa.Hand Go.Proofs.Ytihlimbdgipdeaa.PBase0 Go.Proofs.Ytihlimbdgipdeaa.PNam
set_option linter.unusedVariables false
set_option linter.unusedSimpArgs false

/-! ### bolterlaw02_text: function 27 -/
mutual
def bolterlaw02_text.l0 : Nat → ByteArray → List ByteArray → Int → Int → Option (ByteArray)
  | 0, _, _, _, _ => none
  | k + 1, x3, x8, x9, x10 => if x10 < x9 then (if 0 ≤ x10 then (if x10 < (x8.length : Int) then (bolterlaw02_text.l1 k x3 (rdOf ByteArray.empty x8 x10) 0 x8 x9 x10) else (none)) else (none)) else (if x3.toList = ([] : List UInt8) then (some (⟨#[46]⟩ : ByteArray)) else (some x3))
def bolterlaw02_text.l1 : Nat → ByteArray → ByteArray → Int → List ByteArray → Int → Int → Option (ByteArray)
  | 0, _, _, _, _, _, _ => none
  | k + 1, x3, x5, x6, x8, x9, x10 => if x6 < (x5.size : Int) then (if 0 ≤ x6 then (if (bt x5 x6) ≥ 97 then (if (bt x5 x6) ≤ 122 then (if x6 ≤ (wrap64 (x6 + 1)) then (if (wrap64 (x6 + 1)) ≤ (x5.size : Int) then (if x3.size + (x5.extract (x6 : Int).toNat ((wrap64 (x6 + 1)) : Int).toNat).size ≤ 9223372036854775807 then (bolterlaw02_text.l1 k (x3 ++ (x5.extract (x6 : Int).toNat ((wrap64 (x6 + 1)) : Int).toNat)) x5 (wrap64 (x6 + 1)) x8 x9 x10) else (none)) else (none)) else (none)) else (if (bt x5 x6) ≥ 48 then (if (bt x5 x6) ≤ 57 then (if x6 ≤ (wrap64 (x6 + 1)) then (if (wrap64 (x6 + 1)) ≤ (x5.size : Int) then (if x3.size + (x5.extract (x6 : Int).toNat ((wrap64 (x6 + 1)) : Int).toNat).size ≤ 9223372036854775807 then (bolterlaw02_text.l1 k (x3 ++ (x5.extract (x6 : Int).toNat ((wrap64 (x6 + 1)) : Int).toNat)) x5 (wrap64 (x6 + 1)) x8 x9 x10) else (none)) else (none)) else (none)) else (if (bt x5 x6) = 45 then (if x6 ≤ (wrap64 (x6 + 1)) then (if (wrap64 (x6 + 1)) ≤ (x5.size : Int) then (if x3.size + (x5.extract (x6 : Int).toNat ((wrap64 (x6 + 1)) : Int).toNat).size ≤ 9223372036854775807 then (bolterlaw02_text.l1 k (x3 ++ (x5.extract (x6 : Int).toNat ((wrap64 (x6 + 1)) : Int).toNat)) x5 (wrap64 (x6 + 1)) x8 x9 x10) else (none)) else (none)) else (none)) else (if (bt x5 x6) = 95 then (if x6 ≤ (wrap64 (x6 + 1)) then (if (wrap64 (x6 + 1)) ≤ (x5.size : Int) then (if x3.size + (x5.extract (x6 : Int).toNat ((wrap64 (x6 + 1)) : Int).toNat).size ≤ 9223372036854775807 then (bolterlaw02_text.l1 k (x3 ++ (x5.extract (x6 : Int).toNat ((wrap64 (x6 + 1)) : Int).toNat)) x5 (wrap64 (x6 + 1)) x8 x9 x10) else (none)) else (none)) else (none)) else (if (bt x5 x6) = 42 then (if x6 ≤ (wrap64 (x6 + 1)) then (if (wrap64 (x6 + 1)) ≤ (x5.size : Int) then (if x3.size + (x5.extract (x6 : Int).toNat ((wrap64 (x6 + 1)) : Int).toNat).size ≤ 9223372036854775807 then (bolterlaw02_text.l1 k (x3 ++ (x5.extract (x6 : Int).toNat ((wrap64 (x6 + 1)) : Int).toNat)) x5 (wrap64 (x6 + 1)) x8 x9 x10) else (none)) else (none)) else (none)) else (if x3.size + 1 ≤ 9223372036854775807 then ((some (([(48 + ((Int.tdiv (bt x5 x6) 100) % 256)) % 256, 48 + (((Int.tdiv (bt x5 x6) 10) % 256) % 10), (48 + (Int.tmod (bt x5 x6) 10)) % 256] : List Int) : List Int)).bind fun y120 => (if (x3 ++ (⟨#[92]⟩ : ByteArray)).size + (strOfNums y120).size ≤ 9223372036854775807 then (bolterlaw02_text.l1 k ((x3 ++ (⟨#[92]⟩ : ByteArray)) ++ (strOfNums y120)) x5 (wrap64 (x6 + 1)) x8 x9 x10) else (none))) else (none)))))) else (if (bt x5 x6) = 45 then (if x6 ≤ (wrap64 (x6 + 1)) then (if (wrap64 (x6 + 1)) ≤ (x5.size : Int) then (if x3.size + (x5.extract (x6 : Int).toNat ((wrap64 (x6 + 1)) : Int).toNat).size ≤ 9223372036854775807 then (bolterlaw02_text.l1 k (x3 ++ (x5.extract (x6 : Int).toNat ((wrap64 (x6 + 1)) : Int).toNat)) x5 (wrap64 (x6 + 1)) x8 x9 x10) else (none)) else (none)) else (none)) else (if (bt x5 x6) = 95 then (if x6 ≤ (wrap64 (x6 + 1)) then (if (wrap64 (x6 + 1)) ≤ (x5.size : Int) then (if x3.size + (x5.extract (x6 : Int).toNat ((wrap64 (x6 + 1)) : Int).toNat).size ≤ 9223372036854775807 then (bolterlaw02_text.l1 k (x3 ++ (x5.extract (x6 : Int).toNat ((wrap64 (x6 + 1)) : Int).toNat)) x5 (wrap64 (x6 + 1)) x8 x9 x10) else (none)) else (none)) else (none)) else (if (bt x5 x6) = 42 then (if x6 ≤ (wrap64 (x6 + 1)) then (if (wrap64 (x6 + 1)) ≤ (x5.size : Int) then (if x3.size + (x5.extract (x6 : Int).toNat ((wrap64 (x6 + 1)) : Int).toNat).size ≤ 9223372036854775807 then (bolterlaw02_text.l1 k (x3 ++ (x5.extract (x6 : Int).toNat ((wrap64 (x6 + 1)) : Int).toNat)) x5 (wrap64 (x6 + 1)) x8 x9 x10) else (none)) else (none)) else (none)) else (if x3.size + 1 ≤ 9223372036854775807 then ((some (([(48 + ((Int.tdiv (bt x5 x6) 100) % 256)) % 256, 48 + (((Int.tdiv (bt x5 x6) 10) % 256) % 10), (48 + (Int.tmod (bt x5 x6) 10)) % 256] : List Int) : List Int)).bind fun y123 => (if (x3 ++ (⟨#[92]⟩ : ByteArray)).size + (strOfNums y123).size ≤ 9223372036854775807 then (bolterlaw02_text.l1 k ((x3 ++ (⟨#[92]⟩ : ByteArray)) ++ (strOfNums y123)) x5 (wrap64 (x6 + 1)) x8 x9 x10) else (none))) else (none))))))) else (if (bt x5 x6) ≥ 48 then (if (bt x5 x6) ≤ 57 then (if x6 ≤ (wrap64 (x6 + 1)) then (if (wrap64 (x6 + 1)) ≤ (x5.size : Int) then (if x3.size + (x5.extract (x6 : Int).toNat ((wrap64 (x6 + 1)) : Int).toNat).size ≤ 9223372036854775807 then (bolterlaw02_text.l1 k (x3 ++ (x5.extract (x6 : Int).toNat ((wrap64 (x6 + 1)) : Int).toNat)) x5 (wrap64 (x6 + 1)) x8 x9 x10) else (none)) else (none)) else (none)) else (if (bt x5 x6) = 45 then (if x6 ≤ (wrap64 (x6 + 1)) then (if (wrap64 (x6 + 1)) ≤ (x5.size : Int) then (if x3.size + (x5.extract (x6 : Int).toNat ((wrap64 (x6 + 1)) : Int).toNat).size ≤ 9223372036854775807 then (bolterlaw02_text.l1 k (x3 ++ (x5.extract (x6 : Int).toNat ((wrap64 (x6 + 1)) : Int).toNat)) x5 (wrap64 (x6 + 1)) x8 x9 x10) else (none)) else (none)) else (none)) else (if (bt x5 x6) = 95 then (if x6 ≤ (wrap64 (x6 + 1)) then (if (wrap64 (x6 + 1)) ≤ (x5.size : Int) then (if x3.size + (x5.extract (x6 : Int).toNat ((wrap64 (x6 + 1)) : Int).toNat).size ≤ 9223372036854775807 then (bolterlaw02_text.l1 k (x3 ++ (x5.extract (x6 : Int).toNat ((wrap64 (x6 + 1)) : Int).toNat)) x5 (wrap64 (x6 + 1)) x8 x9 x10) else (none)) else (none)) else (none)) else (if (bt x5 x6) = 42 then (if x6 ≤ (wrap64 (x6 + 1)) then (if (wrap64 (x6 + 1)) ≤ (x5.size : Int) then (if x3.size + (x5.extract (x6 : Int).toNat ((wrap64 (x6 + 1)) : Int).toNat).size ≤ 9223372036854775807 then (bolterlaw02_text.l1 k (x3 ++ (x5.extract (x6 : Int).toNat ((wrap64 (x6 + 1)) : Int).toNat)) x5 (wrap64 (x6 + 1)) x8 x9 x10) else (none)) else (none)) else (none)) else (if x3.size + 1 ≤ 9223372036854775807 then ((some (([(48 + ((Int.tdiv (bt x5 x6) 100) % 256)) % 256, 48 + (((Int.tdiv (bt x5 x6) 10) % 256) % 10), (48 + (Int.tmod (bt x5 x6) 10)) % 256] : List Int) : List Int)).bind fun y126 => (if (x3 ++ (⟨#[92]⟩ : ByteArray)).size + (strOfNums y126).size ≤ 9223372036854775807 then (bolterlaw02_text.l1 k ((x3 ++ (⟨#[92]⟩ : ByteArray)) ++ (strOfNums y126)) x5 (wrap64 (x6 + 1)) x8 x9 x10) else (none))) else (none)))))) else (if (bt x5 x6) = 45 then (if x6 ≤ (wrap64 (x6 + 1)) then (if (wrap64 (x6 + 1)) ≤ (x5.size : Int) then (if x3.size + (x5.extract (x6 : Int).toNat ((wrap64 (x6 + 1)) : Int).toNat).size ≤ 9223372036854775807 then (bolterlaw02_text.l1 k (x3 ++ (x5.extract (x6 : Int).toNat ((wrap64 (x6 + 1)) : Int).toNat)) x5 (wrap64 (x6 + 1)) x8 x9 x10) else (none)) else (none)) else (none)) else (if (bt x5 x6) = 95 then (if x6 ≤ (wrap64 (x6 + 1)) then (if (wrap64 (x6 + 1)) ≤ (x5.size : Int) then (if x3.size + (x5.extract (x6 : Int).toNat ((wrap64 (x6 + 1)) : Int).toNat).size ≤ 9223372036854775807 then (bolterlaw02_text.l1 k (x3 ++ (x5.extract (x6 : Int).toNat ((wrap64 (x6 + 1)) : Int).toNat)) x5 (wrap64 (x6 + 1)) x8 x9 x10) else (none)) else (none)) else (none)) else (if (bt x5 x6) = 42 then (if x6 ≤ (wrap64 (x6 + 1)) then (if (wrap64 (x6 + 1)) ≤ (x5.size : Int) then (if x3.size + (x5.extract (x6 : Int).toNat ((wrap64 (x6 + 1)) : Int).toNat).size ≤ 9223372036854775807 then (bolterlaw02_text.l1 k (x3 ++ (x5.extract (x6 : Int).toNat ((wrap64 (x6 + 1)) : Int).toNat)) x5 (wrap64 (x6 + 1)) x8 x9 x10) else (none)) else (none)) else (none)) else (if x3.size + 1 ≤ 9223372036854775807 then ((some (([(48 + ((Int.tdiv (bt x5 x6) 100) % 256)) % 256, 48 + (((Int.tdiv (bt x5 x6) 10) % 256) % 10), (48 + (Int.tmod (bt x5 x6) 10)) % 256] : List Int) : List Int)).bind fun y129 => (if (x3 ++ (⟨#[92]⟩ : ByteArray)).size + (strOfNums y129).size ≤ 9223372036854775807 then (bolterlaw02_text.l1 k ((x3 ++ (⟨#[92]⟩ : ByteArray)) ++ (strOfNums y129)) x5 (wrap64 (x6 + 1)) x8 x9 x10) else (none))) else (none))))))) else (none)) else (if x3.size + 1 ≤ 9223372036854775807 then (bolterlaw02_text.l0 k (x3 ++ (⟨#[46]⟩ : ByteArray)) x8 x9 (wrap64 (x10 + 1))) else (none))
end
def bolterlaw02_text.f (k : Nat) (l0 : List ByteArray) : Option (ByteArray) := bolterlaw02_text.l0 k (⟨#[]⟩ : ByteArray) l0 (l0.length : Int) 0
theorem bolterlaw02_text.mono_l : ∀ k, (∀ y0 y1 y2 y3, LeO (bolterlaw02_text.l0 k y0 y1 y2 y3) (bolterlaw02_text.l0 (k + 1) y0 y1 y2 y3)) ∧ (∀ y0 y1 y2 y3 y4 y5, LeO (bolterlaw02_text.l1 k y0 y1 y2 y3 y4 y5) (bolterlaw02_text.l1 (k + 1) y0 y1 y2 y3 y4 y5))
  | 0 => ⟨fun _ _ _ _ r h => by simp [bolterlaw02_text.l0] at h, fun _ _ _ _ _ _ r h => by simp [bolterlaw02_text.l1] at h⟩
  | k + 1 => by
    obtain ⟨ih0, ih1⟩ := bolterlaw02_text.mono_l k
    refine ⟨?_, ?_⟩
    · intro y0 y1 y2 y3
      unfold bolterlaw02_text.l0
      repeat' first
      | (with_reducible exact ih0 _ _ _ _)
      | (with_reducible exact ih1 _ _ _ _ _ _)
      | (with_reducible exact LeO.refl _)
      | (with_reducible exact LeO.none _)
      | (with_reducible refine LeO.ite ?_ ?_)
      | (with_reducible refine LeO.bind ?_ (fun _ => ?_))
      | exact ih0 _ _ _ _
      | exact ih1 _ _ _ _ _ _
      | exact LeO.none _
      | refine LeO.ite ?_ ?_
      | refine LeO.bind ?_ (fun _ => ?_)
    · intro y0 y1 y2 y3 y4 y5
      unfold bolterlaw02_text.l1
      repeat' first
      | (with_reducible exact ih0 _ _ _ _)
      | (with_reducible exact ih1 _ _ _ _ _ _)
      | (with_reducible exact LeO.refl _)
      | (with_reducible exact LeO.none _)
      | (with_reducible refine LeO.ite ?_ ?_)
      | (with_reducible refine LeO.bind ?_ (fun _ => ?_))
      | exact ih0 _ _ _ _
      | exact ih1 _ _ _ _ _ _
      | exact LeO.none _
      | refine LeO.ite ?_ ?_
      | refine LeO.bind ?_ (fun _ => ?_)
theorem bolterlaw02_text.mono : ∀ a0 k, LeO (bolterlaw02_text.f k a0) (bolterlaw02_text.f (k + 1) a0) := by
  intro a0 k
  obtain ⟨ih0, ih1⟩ := bolterlaw02_text.mono_l k
  unfold bolterlaw02_text.f
  repeat' first
      | (with_reducible exact ih0 _ _ _ _)
      | (with_reducible exact ih1 _ _ _ _ _ _)
      | (with_reducible exact LeO.refl _)
      | (with_reducible exact LeO.none _)
      | (with_reducible refine LeO.ite ?_ ?_)
      | (with_reducible refine LeO.bind ?_ (fun _ => ?_))
      | exact ih0 _ _ _ _
      | exact ih1 _ _ _ _ _ _
      | exact LeO.none _
      | refine LeO.ite ?_ ?_
      | refine LeO.bind ?_ (fun _ => ?_)
set_option maxHeartbeats 8000000 in
set_option maxRecDepth 100000 in
theorem bolterlaw02_text.calls (k : Nat) (A0 : Option Addr) (c0 : Nat) (l0 : List ByteArray) (r : ByteArray) (w : World) (hr0 : Kd.C Kd.string w A0 l0.length l0) (hc0 : l0.length ≤ c0) (h : bolterlaw02_text.f k l0 = some r) :
    Calls Try.prog 27 #[.slice A0 l0.length c0] w fun e w' => e = .returned (.string r) ∧ Below w.heap.size w w' := by
  have HR0 := Aside0.mk hr0
  have HC0 := Aside0.mk hc0
  clear hr0 hc0
  have HB := Aside0.mk (Below.refl w.heap.size w)
  have H : (bolterlaw02_text.l0 k (⟨#[]⟩ : ByteArray) l0 (l0.length : Int) 0) = some r := h
  clear h
  have H' := Aside0.mk H
  clear H
  go_enter Try.func27, Try.ntmps27
  go_wp2
  go_loopg [3, 10] k (fun kq v3 v10 w' => ∃ (x3_1 : ByteArray) (x10_1 : Int), v3 = .string x3_1 ∧ v10 = .int .i64 x10_1 ∧ Aside0 (bolterlaw02_text.l0 kq x3_1 l0 (l0.length : Int) x10_1 = some r) ∧ Aside0 (kq ≤ k) ∧ Aside0 (Below w.heap.size w w'))
  case atStart => exact ⟨((⟨#[]⟩ : ByteArray)), (0), (by first | rfl | (simp; done) | (simp [*]; done)), (by first | rfl | (simp; done) | (simp [*]; done)), H', ⟨Nat.le_refl _⟩, ⟨by repeat (first | (with_reducible first | exact HB.out | apply below_alloc | apply pw_below_drewN | apply below_drew1) | exact HB.out)⟩⟩
  case round =>
    clear H'
    obtain ⟨x3_1, x10_1, rfl, rfl, HA, HK1, HB⟩ := hrel
    cases gk with
    | zero => exact absurd HA.out (by simp [bolterlaw02_text.l0])
    | succ k1 =>
      have H := HA.out
      clear HA
      simp only [bolterlaw02_text.l0] at H
      by_cases c2 : x10_1 < (l0.length : Int)
      · rw [if_pos c2] at H
        have c2b0 : decide (x10_1 < (l0.length : Int)) = true := decide_eq_true c2
        clear c2
        by_cases c3 : 0 ≤ x10_1
        · rw [if_pos c3] at H
          have c3b0 : decide (0 ≤ x10_1) = true := decide_eq_true c3
          clear c3
          by_cases c4 : x10_1 < (l0.length : Int)
          · rw [if_pos c4] at H
            have c4b0 : decide (x10_1 < (l0.length : Int)) = true := decide_eq_true c4
            clear c4
            have H' := Aside0.mk H
            clear H
            have p119 : 0 ≤ (x10_1 : Int) := of_decide_eq_true (by first | (with_reducible assumption) | assumption)
            have q119 : x10_1 < (l0.length : Int) := of_decide_eq_true (by first | (with_reducible assumption) | assumption)
            obtain ⟨ad119, e119, hx119_0⟩ := Kd.at_string HR0.out x10_1 p119 q119
            cases e119
            replace hx119_0 := (HB.out.cell (World.block_lt_of_cell? w _ hx119_0)).trans hx119_0
            replace p119 := eq_true p119
            replace q119 := eq_true q119
            go_wp2
            go_loopg [3, 6] k1 (fun kq v3 v6 w' => ∃ (x3_2 : ByteArray) (x6_2 : Int), v3 = .string x3_2 ∧ v6 = .int .i64 x6_2 ∧ Aside0 (bolterlaw02_text.l1 kq x3_2 (rdOf ByteArray.empty l0 x10_1) x6_2 l0 (l0.length : Int) x10_1 = some r) ∧ Aside0 (kq ≤ k1) ∧ Aside0 (Below w.heap.size w w'))
            case atStart => exact ⟨(x3_1), (0), (by first | rfl | (simp; done) | (simp [*]; done)), (by first | rfl | (simp; done) | (simp [*]; done)), H', ⟨Nat.le_refl _⟩, ⟨by repeat (first | (with_reducible first | exact HB.out | apply below_alloc | apply pw_below_drewN | apply below_drew1) | exact HB.out)⟩⟩
            case round =>
              clear H'
              try clear p1
              try clear q1
              try clear hx1
              try clear c2
              try clear c2b0
              try clear p2
              try clear c3
              try clear c3b0
              try clear c4
              try clear c4b0
              try clear hx119_0
              try clear p119
              try clear q119
              obtain ⟨x3_2, x6_2, rfl, rfl, HA, HK2, HB⟩ := hrel
              cases gk with
              | zero => exact absurd HA.out (by simp [bolterlaw02_text.l1])
              | succ k2 =>
                have H := HA.out
                clear HA
                simp only [bolterlaw02_text.l1] at H
                by_cases c5 : x6_2 < ((rdOf ByteArray.empty l0 x10_1).size : Int)
                · rw [if_pos c5] at H
                  have c5b0 : decide (x6_2 < ((rdOf ByteArray.empty l0 x10_1).size : Int)) = true := decide_eq_true c5
                  clear c5
                  by_cases c6 : 0 ≤ x6_2
                  · rw [if_pos c6] at H
                    have c6b0 : decide (0 ≤ x6_2) = true := decide_eq_true c6
                    clear c6
                    by_cases c8 : (bt (rdOf ByteArray.empty l0 x10_1) x6_2) ≥ 97
                    · rw [if_pos c8] at H
                      have c8b0 : decide (97 ≤ (bt (rdOf ByteArray.empty l0 x10_1) x6_2)) = true := decide_eq_true c8
                      clear c8
                      by_cases c9 : (bt (rdOf ByteArray.empty l0 x10_1) x6_2) ≤ 122
                      · rw [if_pos c9] at H
                        have c9b0 : decide ((bt (rdOf ByteArray.empty l0 x10_1) x6_2) ≤ 122) = true := decide_eq_true c9
                        clear c9
                        have c10b0 := eq_true (of_decide_eq_true (by first | (with_reducible assumption) | assumption) : 0 ≤ x6_2)
                        by_cases c11 : x6_2 ≤ (wrap64 (x6_2 + 1))
                        · rw [if_pos c11] at H
                          have c11b0 := eq_true c11
                          have c11b1 : decide (x6_2 ≤ (wrap64 (x6_2 + 1))) = true := decide_eq_true c11
                          by_cases c12 : (wrap64 (x6_2 + 1)) ≤ ((rdOf ByteArray.empty l0 x10_1).size : Int)
                          · rw [if_pos c12] at H
                            have c12b0 := eq_true c12
                            have c12b1 : decide ((wrap64 (x6_2 + 1)) ≤ ((rdOf ByteArray.empty l0 x10_1).size : Int)) = true := decide_eq_true c12
                            by_cases c13 : x3_2.size + ((rdOf ByteArray.empty l0 x10_1).extract (x6_2 : Int).toNat ((wrap64 (x6_2 + 1)) : Int).toNat).size ≤ 9223372036854775807
                            · rw [if_pos c13] at H
                              have c13b0 := eq_true c13
                              have c13b1 : decide (x3_2.size + ((rdOf ByteArray.empty l0 x10_1).extract (x6_2 : Int).toNat ((wrap64 (x6_2 + 1)) : Int).toNat).size ≤ 9223372036854775807) = true := decide_eq_true c13
                              try have c13b2 : (9223372036854775807 < x3_2.size + ((rdOf ByteArray.empty l0 x10_1).extract (x6_2 : Int).toNat ((wrap64 (x6_2 + 1)) : Int).toNat).size) = False := eq_false (Nat.not_lt.2 c13)
                              have H' := Aside0.mk H
                              clear H
                              have p7 : 0 ≤ (x6_2 : Int) := of_decide_eq_true (by first | (with_reducible assumption) | assumption)
                              have q7 : x6_2 < ((rdOf ByteArray.empty l0 x10_1).size : Int) := of_decide_eq_true (by first | (with_reducible assumption) | assumption)
                              have hx7 := bt_at (rdOf ByteArray.empty l0 x10_1) x6_2
                              replace p7 := eq_true p7
                              replace q7 := eq_true q7
                              go_wp2
                              go_roundg k2
                              case measure => have := HK1.out; have := HK2.out; omega
                              case rel => exact ⟨(x3_2 ++ ((rdOf ByteArray.empty l0 x10_1).extract (x6_2 : Int).toNat ((wrap64 (x6_2 + 1)) : Int).toNat)), (wrap64 (x6_2 + 1)), (by first | rfl | (simp; done) | (simp [*]; done)), (by first | rfl | (simp; done) | (simp [*]; done)), H', ⟨by have := HK1.out; have := HK2.out; omega⟩, ⟨by repeat (first | (with_reducible first | exact HB.out | apply below_alloc | apply pw_below_drewN | apply below_drew1) | exact HB.out)⟩⟩
                            · rw [if_neg c13] at H
                              exact absurd H (by simp)
                          · rw [if_neg c12] at H
                            exact absurd H (by simp)
                        · rw [if_neg c11] at H
                          exact absurd H (by simp)
                      · rw [if_neg c9] at H
                        have c9b0 : decide ((bt (rdOf ByteArray.empty l0 x10_1) x6_2) ≤ 122) = false := decide_eq_false c9
                        clear c9
                        by_cases c14 : (bt (rdOf ByteArray.empty l0 x10_1) x6_2) ≥ 48
                        · rw [if_pos c14] at H
                          have c14b0 : decide (48 ≤ (bt (rdOf ByteArray.empty l0 x10_1) x6_2)) = true := decide_eq_true c14
                          clear c14
                          by_cases c15 : (bt (rdOf ByteArray.empty l0 x10_1) x6_2) ≤ 57
                          · rw [if_pos c15] at H
                            have c15b0 : decide ((bt (rdOf ByteArray.empty l0 x10_1) x6_2) ≤ 57) = true := decide_eq_true c15
                            clear c15
                            have c16b0 := eq_true (of_decide_eq_true (by first | (with_reducible assumption) | assumption) : 0 ≤ x6_2)
                            by_cases c17 : x6_2 ≤ (wrap64 (x6_2 + 1))
                            · rw [if_pos c17] at H
                              have c17b0 := eq_true c17
                              have c17b1 : decide (x6_2 ≤ (wrap64 (x6_2 + 1))) = true := decide_eq_true c17
                              by_cases c18 : (wrap64 (x6_2 + 1)) ≤ ((rdOf ByteArray.empty l0 x10_1).size : Int)
                              · rw [if_pos c18] at H
                                have c18b0 := eq_true c18
                                have c18b1 : decide ((wrap64 (x6_2 + 1)) ≤ ((rdOf ByteArray.empty l0 x10_1).size : Int)) = true := decide_eq_true c18
                                by_cases c19 : x3_2.size + ((rdOf ByteArray.empty l0 x10_1).extract (x6_2 : Int).toNat ((wrap64 (x6_2 + 1)) : Int).toNat).size ≤ 9223372036854775807
                                · rw [if_pos c19] at H
                                  have c19b0 := eq_true c19
                                  have c19b1 : decide (x3_2.size + ((rdOf ByteArray.empty l0 x10_1).extract (x6_2 : Int).toNat ((wrap64 (x6_2 + 1)) : Int).toNat).size ≤ 9223372036854775807) = true := decide_eq_true c19
                                  try have c19b2 : (9223372036854775807 < x3_2.size + ((rdOf ByteArray.empty l0 x10_1).extract (x6_2 : Int).toNat ((wrap64 (x6_2 + 1)) : Int).toNat).size) = False := eq_false (Nat.not_lt.2 c19)
                                  have H' := Aside0.mk H
                                  clear H
                                  have p7 : 0 ≤ (x6_2 : Int) := of_decide_eq_true (by first | (with_reducible assumption) | assumption)
                                  have q7 : x6_2 < ((rdOf ByteArray.empty l0 x10_1).size : Int) := of_decide_eq_true (by first | (with_reducible assumption) | assumption)
                                  have hx7 := bt_at (rdOf ByteArray.empty l0 x10_1) x6_2
                                  replace p7 := eq_true p7
                                  replace q7 := eq_true q7
                                  go_wp2
                                  go_roundg k2
                                  case measure => have := HK1.out; have := HK2.out; omega
                                  case rel => exact ⟨(x3_2 ++ ((rdOf ByteArray.empty l0 x10_1).extract (x6_2 : Int).toNat ((wrap64 (x6_2 + 1)) : Int).toNat)), (wrap64 (x6_2 + 1)), (by first | rfl | (simp; done) | (simp [*]; done)), (by first | rfl | (simp; done) | (simp [*]; done)), H', ⟨by have := HK1.out; have := HK2.out; omega⟩, ⟨by repeat (first | (with_reducible first | exact HB.out | apply below_alloc | apply pw_below_drewN | apply below_drew1) | exact HB.out)⟩⟩
                                · rw [if_neg c19] at H
                                  exact absurd H (by simp)
                              · rw [if_neg c18] at H
                                exact absurd H (by simp)
                            · rw [if_neg c17] at H
                              exact absurd H (by simp)
                          · rw [if_neg c15] at H
                            have c15b0 : decide ((bt (rdOf ByteArray.empty l0 x10_1) x6_2) ≤ 57) = false := decide_eq_false c15
                            clear c15
                            by_cases c20 : (bt (rdOf ByteArray.empty l0 x10_1) x6_2) = 45
                            · rw [if_pos c20] at H
                              have c20b0 : ((bt (rdOf ByteArray.empty l0 x10_1) x6_2) == 45) = true := beq_iff_eq.mpr c20
                              have c20b1 : ((bt (rdOf ByteArray.empty l0 x10_1) x6_2) != 45) = false := bne_eq_false_iff_eq.mpr c20
                              clear c20
                              have c21b0 := eq_true (of_decide_eq_true (by first | (with_reducible assumption) | assumption) : 0 ≤ x6_2)
                              by_cases c22 : x6_2 ≤ (wrap64 (x6_2 + 1))
                              · rw [if_pos c22] at H
                                have c22b0 := eq_true c22
                                have c22b1 : decide (x6_2 ≤ (wrap64 (x6_2 + 1))) = true := decide_eq_true c22
                                by_cases c23 : (wrap64 (x6_2 + 1)) ≤ ((rdOf ByteArray.empty l0 x10_1).size : Int)
                                · rw [if_pos c23] at H
                                  have c23b0 := eq_true c23
                                  have c23b1 : decide ((wrap64 (x6_2 + 1)) ≤ ((rdOf ByteArray.empty l0 x10_1).size : Int)) = true := decide_eq_true c23
                                  by_cases c24 : x3_2.size + ((rdOf ByteArray.empty l0 x10_1).extract (x6_2 : Int).toNat ((wrap64 (x6_2 + 1)) : Int).toNat).size ≤ 9223372036854775807
                                  · rw [if_pos c24] at H
                                    have c24b0 := eq_true c24
                                    have c24b1 : decide (x3_2.size + ((rdOf ByteArray.empty l0 x10_1).extract (x6_2 : Int).toNat ((wrap64 (x6_2 + 1)) : Int).toNat).size ≤ 9223372036854775807) = true := decide_eq_true c24
                                    try have c24b2 : (9223372036854775807 < x3_2.size + ((rdOf ByteArray.empty l0 x10_1).extract (x6_2 : Int).toNat ((wrap64 (x6_2 + 1)) : Int).toNat).size) = False := eq_false (Nat.not_lt.2 c24)
                                    have H' := Aside0.mk H
                                    clear H
                                    have p7 : 0 ≤ (x6_2 : Int) := of_decide_eq_true (by first | (with_reducible assumption) | assumption)
                                    have q7 : x6_2 < ((rdOf ByteArray.empty l0 x10_1).size : Int) := of_decide_eq_true (by first | (with_reducible assumption) | assumption)
                                    have hx7 := bt_at (rdOf ByteArray.empty l0 x10_1) x6_2
                                    replace p7 := eq_true p7
                                    replace q7 := eq_true q7
                                    go_wp2
                                    go_roundg k2
                                    case measure => have := HK1.out; have := HK2.out; omega
                                    case rel => exact ⟨(x3_2 ++ ((rdOf ByteArray.empty l0 x10_1).extract (x6_2 : Int).toNat ((wrap64 (x6_2 + 1)) : Int).toNat)), (wrap64 (x6_2 + 1)), (by first | rfl | (simp; done) | (simp [*]; done)), (by first | rfl | (simp; done) | (simp [*]; done)), H', ⟨by have := HK1.out; have := HK2.out; omega⟩, ⟨by repeat (first | (with_reducible first | exact HB.out | apply below_alloc | apply pw_below_drewN | apply below_drew1) | exact HB.out)⟩⟩
                                  · rw [if_neg c24] at H
                                    exact absurd H (by simp)
                                · rw [if_neg c23] at H
                                  exact absurd H (by simp)
                              · rw [if_neg c22] at H
                                exact absurd H (by simp)
                            · rw [if_neg c20] at H
                              have c20b0 : ((bt (rdOf ByteArray.empty l0 x10_1) x6_2) == 45) = false := beq_eq_false_iff_ne.mpr c20
                              have c20b1 : ((bt (rdOf ByteArray.empty l0 x10_1) x6_2) != 45) = true := bne_iff_ne.mpr c20
                              by_cases c25 : (bt (rdOf ByteArray.empty l0 x10_1) x6_2) = 95
                              · rw [if_pos c25] at H
                                have c25b0 : ((bt (rdOf ByteArray.empty l0 x10_1) x6_2) == 95) = true := beq_iff_eq.mpr c25
                                have c25b1 : ((bt (rdOf ByteArray.empty l0 x10_1) x6_2) != 95) = false := bne_eq_false_iff_eq.mpr c25
                                clear c25
                                have c26b0 := eq_true (of_decide_eq_true (by first | (with_reducible assumption) | assumption) : 0 ≤ x6_2)
                                by_cases c27 : x6_2 ≤ (wrap64 (x6_2 + 1))
                                · rw [if_pos c27] at H
                                  have c27b0 := eq_true c27
                                  have c27b1 : decide (x6_2 ≤ (wrap64 (x6_2 + 1))) = true := decide_eq_true c27
                                  by_cases c28 : (wrap64 (x6_2 + 1)) ≤ ((rdOf ByteArray.empty l0 x10_1).size : Int)
                                  · rw [if_pos c28] at H
                                    have c28b0 := eq_true c28
                                    have c28b1 : decide ((wrap64 (x6_2 + 1)) ≤ ((rdOf ByteArray.empty l0 x10_1).size : Int)) = true := decide_eq_true c28
                                    by_cases c29 : x3_2.size + ((rdOf ByteArray.empty l0 x10_1).extract (x6_2 : Int).toNat ((wrap64 (x6_2 + 1)) : Int).toNat).size ≤ 9223372036854775807
                                    · rw [if_pos c29] at H
                                      have c29b0 := eq_true c29
                                      have c29b1 : decide (x3_2.size + ((rdOf ByteArray.empty l0 x10_1).extract (x6_2 : Int).toNat ((wrap64 (x6_2 + 1)) : Int).toNat).size ≤ 9223372036854775807) = true := decide_eq_true c29
                                      try have c29b2 : (9223372036854775807 < x3_2.size + ((rdOf ByteArray.empty l0 x10_1).extract (x6_2 : Int).toNat ((wrap64 (x6_2 + 1)) : Int).toNat).size) = False := eq_false (Nat.not_lt.2 c29)
                                      have H' := Aside0.mk H
                                      clear H
                                      have p7 : 0 ≤ (x6_2 : Int) := of_decide_eq_true (by first | (with_reducible assumption) | assumption)
                                      have q7 : x6_2 < ((rdOf ByteArray.empty l0 x10_1).size : Int) := of_decide_eq_true (by first | (with_reducible assumption) | assumption)
                                      have hx7 := bt_at (rdOf ByteArray.empty l0 x10_1) x6_2
                                      replace p7 := eq_true p7
                                      replace q7 := eq_true q7
                                      go_wp2
                                      go_roundg k2
                                      case measure => have := HK1.out; have := HK2.out; omega
                                      case rel => exact ⟨(x3_2 ++ ((rdOf ByteArray.empty l0 x10_1).extract (x6_2 : Int).toNat ((wrap64 (x6_2 + 1)) : Int).toNat)), (wrap64 (x6_2 + 1)), (by first | rfl | (simp; done) | (simp [*]; done)), (by first | rfl | (simp; done) | (simp [*]; done)), H', ⟨by have := HK1.out; have := HK2.out; omega⟩, ⟨by repeat (first | (with_reducible first | exact HB.out | apply below_alloc | apply pw_below_drewN | apply below_drew1) | exact HB.out)⟩⟩
                                    · rw [if_neg c29] at H
                                      exact absurd H (by simp)
                                  · rw [if_neg c28] at H
                                    exact absurd H (by simp)
                                · rw [if_neg c27] at H
                                  exact absurd H (by simp)
                              · rw [if_neg c25] at H
                                have c25b0 : ((bt (rdOf ByteArray.empty l0 x10_1) x6_2) == 95) = false := beq_eq_false_iff_ne.mpr c25
                                have c25b1 : ((bt (rdOf ByteArray.empty l0 x10_1) x6_2) != 95) = true := bne_iff_ne.mpr c25
                                by_cases c30 : (bt (rdOf ByteArray.empty l0 x10_1) x6_2) = 42
                                · rw [if_pos c30] at H
                                  have c30b0 : ((bt (rdOf ByteArray.empty l0 x10_1) x6_2) == 42) = true := beq_iff_eq.mpr c30
                                  have c30b1 : ((bt (rdOf ByteArray.empty l0 x10_1) x6_2) != 42) = false := bne_eq_false_iff_eq.mpr c30
                                  clear c30
                                  have c31b0 := eq_true (of_decide_eq_true (by first | (with_reducible assumption) | assumption) : 0 ≤ x6_2)
                                  by_cases c32 : x6_2 ≤ (wrap64 (x6_2 + 1))
                                  · rw [if_pos c32] at H
                                    have c32b0 := eq_true c32
                                    have c32b1 : decide (x6_2 ≤ (wrap64 (x6_2 + 1))) = true := decide_eq_true c32
                                    by_cases c33 : (wrap64 (x6_2 + 1)) ≤ ((rdOf ByteArray.empty l0 x10_1).size : Int)
                                    · rw [if_pos c33] at H
                                      have c33b0 := eq_true c33
                                      have c33b1 : decide ((wrap64 (x6_2 + 1)) ≤ ((rdOf ByteArray.empty l0 x10_1).size : Int)) = true := decide_eq_true c33
                                      by_cases c34 : x3_2.size + ((rdOf ByteArray.empty l0 x10_1).extract (x6_2 : Int).toNat ((wrap64 (x6_2 + 1)) : Int).toNat).size ≤ 9223372036854775807
                                      · rw [if_pos c34] at H
                                        have c34b0 := eq_true c34
                                        have c34b1 : decide (x3_2.size + ((rdOf ByteArray.empty l0 x10_1).extract (x6_2 : Int).toNat ((wrap64 (x6_2 + 1)) : Int).toNat).size ≤ 9223372036854775807) = true := decide_eq_true c34
                                        try have c34b2 : (9223372036854775807 < x3_2.size + ((rdOf ByteArray.empty l0 x10_1).extract (x6_2 : Int).toNat ((wrap64 (x6_2 + 1)) : Int).toNat).size) = False := eq_false (Nat.not_lt.2 c34)
                                        have H' := Aside0.mk H
                                        clear H
                                        have p7 : 0 ≤ (x6_2 : Int) := of_decide_eq_true (by first | (with_reducible assumption) | assumption)
                                        have q7 : x6_2 < ((rdOf ByteArray.empty l0 x10_1).size : Int) := of_decide_eq_true (by first | (with_reducible assumption) | assumption)
                                        have hx7 := bt_at (rdOf ByteArray.empty l0 x10_1) x6_2
                                        replace p7 := eq_true p7
                                        replace q7 := eq_true q7
                                        go_wp2
                                        go_roundg k2
                                        case measure => have := HK1.out; have := HK2.out; omega
                                        case rel => exact ⟨(x3_2 ++ ((rdOf ByteArray.empty l0 x10_1).extract (x6_2 : Int).toNat ((wrap64 (x6_2 + 1)) : Int).toNat)), (wrap64 (x6_2 + 1)), (by first | rfl | (simp; done) | (simp [*]; done)), (by first | rfl | (simp; done) | (simp [*]; done)), H', ⟨by have := HK1.out; have := HK2.out; omega⟩, ⟨by repeat (first | (with_reducible first | exact HB.out | apply below_alloc | apply pw_below_drewN | apply below_drew1) | exact HB.out)⟩⟩
                                      · rw [if_neg c34] at H
                                        exact absurd H (by simp)
                                    · rw [if_neg c33] at H
                                      exact absurd H (by simp)
                                  · rw [if_neg c32] at H
                                    exact absurd H (by simp)
                                · rw [if_neg c30] at H
                                  have c30b0 : ((bt (rdOf ByteArray.empty l0 x10_1) x6_2) == 42) = false := beq_eq_false_iff_ne.mpr c30
                                  have c30b1 : ((bt (rdOf ByteArray.empty l0 x10_1) x6_2) != 42) = true := bne_iff_ne.mpr c30
                                  by_cases c35 : x3_2.size + 1 ≤ 9223372036854775807
                                  · rw [if_pos c35] at H
                                    have c35b0 := eq_true c35
                                    have c35b1 : decide (x3_2.size + 1 ≤ 9223372036854775807) = true := decide_eq_true c35
                                    try have c35b2 : (9223372036854775807 < x3_2.size + 1) = False := eq_false (Nat.not_lt.2 c35)
                                    obtain ⟨y120, hy120⟩ : ∃ y_ : List Int, y_ = (([(48 + ((Int.tdiv (bt (rdOf ByteArray.empty l0 x10_1) x6_2) 100) % 256)) % 256, 48 + (((Int.tdiv (bt (rdOf ByteArray.empty l0 x10_1) x6_2) 10) % 256) % 10), (48 + (Int.tmod (bt (rdOf ByteArray.empty l0 x10_1) x6_2) 10)) % 256] : List Int)) := ⟨_, rfl⟩
                                    replace H : (if (x3_2 ++ (⟨#[92]⟩ : ByteArray)).size + (strOfNums y120).size ≤ 9223372036854775807 then (bolterlaw02_text.l1 k2 ((x3_2 ++ (⟨#[92]⟩ : ByteArray)) ++ (strOfNums y120)) (rdOf ByteArray.empty l0 x10_1) (wrap64 (x6_2 + 1)) l0 (l0.length : Int) x10_1) else (none)) = some r := by first | (rw [hy120]; with_reducible exact H) | (have H2_ := (Option.bind_some _ _).symm.trans H; rw [hy120]; with_reducible exact H2_) | (have H2_ := (Option.bind_some _ _).symm.trans H; with_reducible exact H2_) | with_reducible exact H | (rw [hy120]; exact H) | exact H
                                    have Ny120 := Aside0.mk hy120
                                    clear hy120
                                    by_cases c36 : (x3_2 ++ (⟨#[92]⟩ : ByteArray)).size + (strOfNums y120).size ≤ 9223372036854775807
                                    · rw [if_pos c36] at H
                                      have c36b0 := eq_true c36
                                      have c36b1 : decide ((x3_2 ++ (⟨#[92]⟩ : ByteArray)).size + (strOfNums y120).size ≤ 9223372036854775807) = true := decide_eq_true c36
                                      try have c36b2 : (9223372036854775807 < (x3_2 ++ (⟨#[92]⟩ : ByteArray)).size + (strOfNums y120).size) = False := eq_false (Nat.not_lt.2 c36)
                                      have H' := Aside0.mk H
                                      clear H
                                      have p7 : 0 ≤ (x6_2 : Int) := of_decide_eq_true (by first | (with_reducible assumption) | assumption)
                                      have q7 : x6_2 < ((rdOf ByteArray.empty l0 x10_1).size : Int) := of_decide_eq_true (by first | (with_reducible assumption) | assumption)
                                      have hx7 := bt_at (rdOf ByteArray.empty l0 x10_1) x6_2
                                      replace p7 := eq_true p7
                                      replace q7 := eq_true q7
                                      go_wp2_with (first | ((with_reducible refine gate_dst (N := 68) rfl ?_); refine Kd.R_lit (Kd.int .u8) _ 5 ?hg (N := 68) ?hd (xs := ([(48 + ((Int.tdiv (bt (rdOf ByteArray.empty l0 x10_1) x6_2) 100) % 256)) % 256, 48 + (((Int.tdiv (bt (rdOf ByteArray.empty l0 x10_1) x6_2) 10) % 256) % 10), (48 + (Int.tmod (bt (rdOf ByteArray.empty l0 x10_1) x6_2) 10)) % 256] : List Int)) (inner := [.int .u8 ((48 + ((Int.tdiv (bt (rdOf ByteArray.empty l0 x10_1) x6_2) 100) % 256)) % 256), .int .u8 (48 + (((Int.tdiv (bt (rdOf ByteArray.empty l0 x10_1) x6_2) 10) % 256) % 10)), .int .u8 ((48 + (Int.tmod (bt (rdOf ByteArray.empty l0 x10_1) x6_2) 10)) % 256)]) (ok := fun _ => True) (okp := fun _ => True) ?hr ?hp (fun _ hk => hk) trivial (Below.refl _ _) (Nat.le_refl _) (by simp) ?_; (case hd => rfl); (case hg => rfl); (case hr => first | (go_simp; done) | (go_simp; rfl)); (case hp => exact (Reps.one (show Kd.M (Kd.int .u8) _ _ _ ((48 + ((Int.tdiv (bt (rdOf ByteArray.empty l0 x10_1) x6_2) 100) % 256)) % 256) [.int .u8 ((48 + ((Int.tdiv (bt (rdOf ByteArray.empty l0 x10_1) x6_2) 100) % 256)) % 256)] from rfl) (Reps.one (show Kd.M (Kd.int .u8) _ _ _ (48 + (((Int.tdiv (bt (rdOf ByteArray.empty l0 x10_1) x6_2) 10) % 256) % 10)) [.int .u8 (48 + (((Int.tdiv (bt (rdOf ByteArray.empty l0 x10_1) x6_2) 10) % 256) % 10))] from rfl) (Reps.one (show Kd.M (Kd.int .u8) _ _ _ ((48 + (Int.tmod (bt (rdOf ByteArray.empty l0 x10_1) x6_2) 10)) % 256) [.int .u8 ((48 + (Int.tmod (bt (rdOf ByteArray.empty l0 x10_1) x6_2) 10)) % 256)] from rfl) (Reps.none _ _))))); intro v121 w37 ho38 hb hg_ hnew_; clear hg_ hnew_; (first | rw [← Ny120.out] at ho38 | (simp only [Int.reduceToNat] at ho38; rw [← Ny120.out] at ho38)); have n0_ := Aside0.mk (Kd.R_lower ho38 (below_size (by repeat (first | (with_reducible first | exact HB.out | apply below_alloc | apply pw_below_drewN | apply below_drew1) | exact HB.out)))); have n1_ := Aside0.mk (below_step (by repeat (first | (with_reducible first | exact HB.out | apply below_alloc | apply pw_below_drewN | apply below_drew1) | exact HB.out)) hb); clear HB; have HO122 := n0_; have HB := n1_; clear n0_ n1_; clear hb ho38; have hcv39 := own_string (P := Try.prog) Try.underlying25 Try.underlying5 Try.underlying9 (Kd.own_of_R HO122.out)))
                                      go_roundg k2
                                      case measure => have := HK1.out; have := HK2.out; omega
                                      case rel => exact ⟨((x3_2 ++ (⟨#[92]⟩ : ByteArray)) ++ (strOfNums y120)), (wrap64 (x6_2 + 1)), (by first | rfl | (simp; done) | (simp [*]; done)), (by first | rfl | (simp; done) | (simp [*]; done)), H', ⟨by have := HK1.out; have := HK2.out; omega⟩, ⟨by repeat (first | (with_reducible first | exact HB.out | apply below_alloc | apply pw_below_drewN | apply below_drew1) | exact HB.out)⟩⟩
                                    · rw [if_neg c36] at H
                                      exact absurd H (by simp)
                                  · rw [if_neg c35] at H
                                    exact absurd H (by simp)
                        · rw [if_neg c14] at H
                          have c14b0 : decide (48 ≤ (bt (rdOf ByteArray.empty l0 x10_1) x6_2)) = false := decide_eq_false c14
                          clear c14
                          by_cases c40 : (bt (rdOf ByteArray.empty l0 x10_1) x6_2) = 45
                          · rw [if_pos c40] at H
                            have c40b0 : ((bt (rdOf ByteArray.empty l0 x10_1) x6_2) == 45) = true := beq_iff_eq.mpr c40
                            have c40b1 : ((bt (rdOf ByteArray.empty l0 x10_1) x6_2) != 45) = false := bne_eq_false_iff_eq.mpr c40
                            clear c40
                            have c41b0 := eq_true (of_decide_eq_true (by first | (with_reducible assumption) | assumption) : 0 ≤ x6_2)
                            by_cases c42 : x6_2 ≤ (wrap64 (x6_2 + 1))
                            · rw [if_pos c42] at H
                              have c42b0 := eq_true c42
                              have c42b1 : decide (x6_2 ≤ (wrap64 (x6_2 + 1))) = true := decide_eq_true c42
                              by_cases c43 : (wrap64 (x6_2 + 1)) ≤ ((rdOf ByteArray.empty l0 x10_1).size : Int)
                              · rw [if_pos c43] at H
                                have c43b0 := eq_true c43
                                have c43b1 : decide ((wrap64 (x6_2 + 1)) ≤ ((rdOf ByteArray.empty l0 x10_1).size : Int)) = true := decide_eq_true c43
                                by_cases c44 : x3_2.size + ((rdOf ByteArray.empty l0 x10_1).extract (x6_2 : Int).toNat ((wrap64 (x6_2 + 1)) : Int).toNat).size ≤ 9223372036854775807
                                · rw [if_pos c44] at H
                                  have c44b0 := eq_true c44
                                  have c44b1 : decide (x3_2.size + ((rdOf ByteArray.empty l0 x10_1).extract (x6_2 : Int).toNat ((wrap64 (x6_2 + 1)) : Int).toNat).size ≤ 9223372036854775807) = true := decide_eq_true c44
                                  try have c44b2 : (9223372036854775807 < x3_2.size + ((rdOf ByteArray.empty l0 x10_1).extract (x6_2 : Int).toNat ((wrap64 (x6_2 + 1)) : Int).toNat).size) = False := eq_false (Nat.not_lt.2 c44)
                                  have H' := Aside0.mk H
                                  clear H
                                  have p7 : 0 ≤ (x6_2 : Int) := of_decide_eq_true (by first | (with_reducible assumption) | assumption)
                                  have q7 : x6_2 < ((rdOf ByteArray.empty l0 x10_1).size : Int) := of_decide_eq_true (by first | (with_reducible assumption) | assumption)
                                  have hx7 := bt_at (rdOf ByteArray.empty l0 x10_1) x6_2
                                  replace p7 := eq_true p7
                                  replace q7 := eq_true q7
                                  go_wp2
                                  go_roundg k2
                                  case measure => have := HK1.out; have := HK2.out; omega
                                  case rel => exact ⟨(x3_2 ++ ((rdOf ByteArray.empty l0 x10_1).extract (x6_2 : Int).toNat ((wrap64 (x6_2 + 1)) : Int).toNat)), (wrap64 (x6_2 + 1)), (by first | rfl | (simp; done) | (simp [*]; done)), (by first | rfl | (simp; done) | (simp [*]; done)), H', ⟨by have := HK1.out; have := HK2.out; omega⟩, ⟨by repeat (first | (with_reducible first | exact HB.out | apply below_alloc | apply pw_below_drewN | apply below_drew1) | exact HB.out)⟩⟩
                                · rw [if_neg c44] at H
                                  exact absurd H (by simp)
                              · rw [if_neg c43] at H
                                exact absurd H (by simp)
                            · rw [if_neg c42] at H
                              exact absurd H (by simp)
                          · rw [if_neg c40] at H
                            have c40b0 : ((bt (rdOf ByteArray.empty l0 x10_1) x6_2) == 45) = false := beq_eq_false_iff_ne.mpr c40
                            have c40b1 : ((bt (rdOf ByteArray.empty l0 x10_1) x6_2) != 45) = true := bne_iff_ne.mpr c40
                            by_cases c45 : (bt (rdOf ByteArray.empty l0 x10_1) x6_2) = 95
                            · rw [if_pos c45] at H
                              have c45b0 : ((bt (rdOf ByteArray.empty l0 x10_1) x6_2) == 95) = true := beq_iff_eq.mpr c45
                              have c45b1 : ((bt (rdOf ByteArray.empty l0 x10_1) x6_2) != 95) = false := bne_eq_false_iff_eq.mpr c45
                              clear c45
                              have c46b0 := eq_true (of_decide_eq_true (by first | (with_reducible assumption) | assumption) : 0 ≤ x6_2)
                              by_cases c47 : x6_2 ≤ (wrap64 (x6_2 + 1))
                              · rw [if_pos c47] at H
                                have c47b0 := eq_true c47
                                have c47b1 : decide (x6_2 ≤ (wrap64 (x6_2 + 1))) = true := decide_eq_true c47
                                by_cases c48 : (wrap64 (x6_2 + 1)) ≤ ((rdOf ByteArray.empty l0 x10_1).size : Int)
                                · rw [if_pos c48] at H
                                  have c48b0 := eq_true c48
                                  have c48b1 : decide ((wrap64 (x6_2 + 1)) ≤ ((rdOf ByteArray.empty l0 x10_1).size : Int)) = true := decide_eq_true c48
                                  by_cases c49 : x3_2.size + ((rdOf ByteArray.empty l0 x10_1).extract (x6_2 : Int).toNat ((wrap64 (x6_2 + 1)) : Int).toNat).size ≤ 9223372036854775807
                                  · rw [if_pos c49] at H
                                    have c49b0 := eq_true c49
                                    have c49b1 : decide (x3_2.size + ((rdOf ByteArray.empty l0 x10_1).extract (x6_2 : Int).toNat ((wrap64 (x6_2 + 1)) : Int).toNat).size ≤ 9223372036854775807) = true := decide_eq_true c49
                                    try have c49b2 : (9223372036854775807 < x3_2.size + ((rdOf ByteArray.empty l0 x10_1).extract (x6_2 : Int).toNat ((wrap64 (x6_2 + 1)) : Int).toNat).size) = False := eq_false (Nat.not_lt.2 c49)
                                    have H' := Aside0.mk H
                                    clear H
                                    have p7 : 0 ≤ (x6_2 : Int) := of_decide_eq_true (by first | (with_reducible assumption) | assumption)
                                    have q7 : x6_2 < ((rdOf ByteArray.empty l0 x10_1).size : Int) := of_decide_eq_true (by first | (with_reducible assumption) | assumption)
                                    have hx7 := bt_at (rdOf ByteArray.empty l0 x10_1) x6_2
                                    replace p7 := eq_true p7
                                    replace q7 := eq_true q7
                                    go_wp2
                                    go_roundg k2
                                    case measure => have := HK1.out; have := HK2.out; omega
                                    case rel => exact ⟨(x3_2 ++ ((rdOf ByteArray.empty l0 x10_1).extract (x6_2 : Int).toNat ((wrap64 (x6_2 + 1)) : Int).toNat)), (wrap64 (x6_2 + 1)), (by first | rfl | (simp; done) | (simp [*]; done)), (by first | rfl | (simp; done) | (simp [*]; done)), H', ⟨by have := HK1.out; have := HK2.out; omega⟩, ⟨by repeat (first | (with_reducible first | exact HB.out | apply below_alloc | apply pw_below_drewN | apply below_drew1) | exact HB.out)⟩⟩
                                  · rw [if_neg c49] at H
                                    exact absurd H (by simp)
                                · rw [if_neg c48] at H
                                  exact absurd H (by simp)
                              · rw [if_neg c47] at H
                                exact absurd H (by simp)
                            · rw [if_neg c45] at H
                              have c45b0 : ((bt (rdOf ByteArray.empty l0 x10_1) x6_2) == 95) = false := beq_eq_false_iff_ne.mpr c45
                              have c45b1 : ((bt (rdOf ByteArray.empty l0 x10_1) x6_2) != 95) = true := bne_iff_ne.mpr c45
                              by_cases c50 : (bt (rdOf ByteArray.empty l0 x10_1) x6_2) = 42
                              · rw [if_pos c50] at H
                                have c50b0 : ((bt (rdOf ByteArray.empty l0 x10_1) x6_2) == 42) = true := beq_iff_eq.mpr c50
                                have c50b1 : ((bt (rdOf ByteArray.empty l0 x10_1) x6_2) != 42) = false := bne_eq_false_iff_eq.mpr c50
                                clear c50
                                have c51b0 := eq_true (of_decide_eq_true (by first | (with_reducible assumption) | assumption) : 0 ≤ x6_2)
                                by_cases c52 : x6_2 ≤ (wrap64 (x6_2 + 1))
                                · rw [if_pos c52] at H
                                  have c52b0 := eq_true c52
                                  have c52b1 : decide (x6_2 ≤ (wrap64 (x6_2 + 1))) = true := decide_eq_true c52
                                  by_cases c53 : (wrap64 (x6_2 + 1)) ≤ ((rdOf ByteArray.empty l0 x10_1).size : Int)
                                  · rw [if_pos c53] at H
                                    have c53b0 := eq_true c53
                                    have c53b1 : decide ((wrap64 (x6_2 + 1)) ≤ ((rdOf ByteArray.empty l0 x10_1).size : Int)) = true := decide_eq_true c53
                                    by_cases c54 : x3_2.size + ((rdOf ByteArray.empty l0 x10_1).extract (x6_2 : Int).toNat ((wrap64 (x6_2 + 1)) : Int).toNat).size ≤ 9223372036854775807
                                    · rw [if_pos c54] at H
                                      have c54b0 := eq_true c54
                                      have c54b1 : decide (x3_2.size + ((rdOf ByteArray.empty l0 x10_1).extract (x6_2 : Int).toNat ((wrap64 (x6_2 + 1)) : Int).toNat).size ≤ 9223372036854775807) = true := decide_eq_true c54
                                      try have c54b2 : (9223372036854775807 < x3_2.size + ((rdOf ByteArray.empty l0 x10_1).extract (x6_2 : Int).toNat ((wrap64 (x6_2 + 1)) : Int).toNat).size) = False := eq_false (Nat.not_lt.2 c54)
                                      have H' := Aside0.mk H
                                      clear H
                                      have p7 : 0 ≤ (x6_2 : Int) := of_decide_eq_true (by first | (with_reducible assumption) | assumption)
                                      have q7 : x6_2 < ((rdOf ByteArray.empty l0 x10_1).size : Int) := of_decide_eq_true (by first | (with_reducible assumption) | assumption)
                                      have hx7 := bt_at (rdOf ByteArray.empty l0 x10_1) x6_2
                                      replace p7 := eq_true p7
                                      replace q7 := eq_true q7
                                      go_wp2
                                      go_roundg k2
                                      case measure => have := HK1.out; have := HK2.out; omega
                                      case rel => exact ⟨(x3_2 ++ ((rdOf ByteArray.empty l0 x10_1).extract (x6_2 : Int).toNat ((wrap64 (x6_2 + 1)) : Int).toNat)), (wrap64 (x6_2 + 1)), (by first | rfl | (simp; done) | (simp [*]; done)), (by first | rfl | (simp; done) | (simp [*]; done)), H', ⟨by have := HK1.out; have := HK2.out; omega⟩, ⟨by repeat (first | (with_reducible first | exact HB.out | apply below_alloc | apply pw_below_drewN | apply below_drew1) | exact HB.out)⟩⟩
                                    · rw [if_neg c54] at H
                                      exact absurd H (by simp)
                                  · rw [if_neg c53] at H
                                    exact absurd H (by simp)
                                · rw [if_neg c52] at H
                                  exact absurd H (by simp)
                              · rw [if_neg c50] at H
                                have c50b0 : ((bt (rdOf ByteArray.empty l0 x10_1) x6_2) == 42) = false := beq_eq_false_iff_ne.mpr c50
                                have c50b1 : ((bt (rdOf ByteArray.empty l0 x10_1) x6_2) != 42) = true := bne_iff_ne.mpr c50
                                by_cases c55 : x3_2.size + 1 ≤ 9223372036854775807
                                · rw [if_pos c55] at H
                                  have c55b0 := eq_true c55
                                  have c55b1 : decide (x3_2.size + 1 ≤ 9223372036854775807) = true := decide_eq_true c55
                                  try have c55b2 : (9223372036854775807 < x3_2.size + 1) = False := eq_false (Nat.not_lt.2 c55)
                                  obtain ⟨y123, hy123⟩ : ∃ y_ : List Int, y_ = (([(48 + ((Int.tdiv (bt (rdOf ByteArray.empty l0 x10_1) x6_2) 100) % 256)) % 256, 48 + (((Int.tdiv (bt (rdOf ByteArray.empty l0 x10_1) x6_2) 10) % 256) % 10), (48 + (Int.tmod (bt (rdOf ByteArray.empty l0 x10_1) x6_2) 10)) % 256] : List Int)) := ⟨_, rfl⟩
                                  replace H : (if (x3_2 ++ (⟨#[92]⟩ : ByteArray)).size + (strOfNums y123).size ≤ 9223372036854775807 then (bolterlaw02_text.l1 k2 ((x3_2 ++ (⟨#[92]⟩ : ByteArray)) ++ (strOfNums y123)) (rdOf ByteArray.empty l0 x10_1) (wrap64 (x6_2 + 1)) l0 (l0.length : Int) x10_1) else (none)) = some r := by first | (rw [hy123]; with_reducible exact H) | (have H2_ := (Option.bind_some _ _).symm.trans H; rw [hy123]; with_reducible exact H2_) | (have H2_ := (Option.bind_some _ _).symm.trans H; with_reducible exact H2_) | with_reducible exact H | (rw [hy123]; exact H) | exact H
                                  have Ny123 := Aside0.mk hy123
                                  clear hy123
                                  by_cases c56 : (x3_2 ++ (⟨#[92]⟩ : ByteArray)).size + (strOfNums y123).size ≤ 9223372036854775807
                                  · rw [if_pos c56] at H
                                    have c56b0 := eq_true c56
                                    have c56b1 : decide ((x3_2 ++ (⟨#[92]⟩ : ByteArray)).size + (strOfNums y123).size ≤ 9223372036854775807) = true := decide_eq_true c56
                                    try have c56b2 : (9223372036854775807 < (x3_2 ++ (⟨#[92]⟩ : ByteArray)).size + (strOfNums y123).size) = False := eq_false (Nat.not_lt.2 c56)
                                    have H' := Aside0.mk H
                                    clear H
                                    have p7 : 0 ≤ (x6_2 : Int) := of_decide_eq_true (by first | (with_reducible assumption) | assumption)
                                    have q7 : x6_2 < ((rdOf ByteArray.empty l0 x10_1).size : Int) := of_decide_eq_true (by first | (with_reducible assumption) | assumption)
                                    have hx7 := bt_at (rdOf ByteArray.empty l0 x10_1) x6_2
                                    replace p7 := eq_true p7
                                    replace q7 := eq_true q7
                                    go_wp2_with (first | ((with_reducible refine gate_dst (N := 68) rfl ?_); refine Kd.R_lit (Kd.int .u8) _ 5 ?hg (N := 68) ?hd (xs := ([(48 + ((Int.tdiv (bt (rdOf ByteArray.empty l0 x10_1) x6_2) 100) % 256)) % 256, 48 + (((Int.tdiv (bt (rdOf ByteArray.empty l0 x10_1) x6_2) 10) % 256) % 10), (48 + (Int.tmod (bt (rdOf ByteArray.empty l0 x10_1) x6_2) 10)) % 256] : List Int)) (inner := [.int .u8 ((48 + ((Int.tdiv (bt (rdOf ByteArray.empty l0 x10_1) x6_2) 100) % 256)) % 256), .int .u8 (48 + (((Int.tdiv (bt (rdOf ByteArray.empty l0 x10_1) x6_2) 10) % 256) % 10)), .int .u8 ((48 + (Int.tmod (bt (rdOf ByteArray.empty l0 x10_1) x6_2) 10)) % 256)]) (ok := fun _ => True) (okp := fun _ => True) ?hr ?hp (fun _ hk => hk) trivial (Below.refl _ _) (Nat.le_refl _) (by simp) ?_; (case hd => rfl); (case hg => rfl); (case hr => first | (go_simp; done) | (go_simp; rfl)); (case hp => exact (Reps.one (show Kd.M (Kd.int .u8) _ _ _ ((48 + ((Int.tdiv (bt (rdOf ByteArray.empty l0 x10_1) x6_2) 100) % 256)) % 256) [.int .u8 ((48 + ((Int.tdiv (bt (rdOf ByteArray.empty l0 x10_1) x6_2) 100) % 256)) % 256)] from rfl) (Reps.one (show Kd.M (Kd.int .u8) _ _ _ (48 + (((Int.tdiv (bt (rdOf ByteArray.empty l0 x10_1) x6_2) 10) % 256) % 10)) [.int .u8 (48 + (((Int.tdiv (bt (rdOf ByteArray.empty l0 x10_1) x6_2) 10) % 256) % 10))] from rfl) (Reps.one (show Kd.M (Kd.int .u8) _ _ _ ((48 + (Int.tmod (bt (rdOf ByteArray.empty l0 x10_1) x6_2) 10)) % 256) [.int .u8 ((48 + (Int.tmod (bt (rdOf ByteArray.empty l0 x10_1) x6_2) 10)) % 256)] from rfl) (Reps.none _ _))))); intro v124 w57 ho58 hb hg_ hnew_; clear hg_ hnew_; (first | rw [← Ny123.out] at ho58 | (simp only [Int.reduceToNat] at ho58; rw [← Ny123.out] at ho58)); have n0_ := Aside0.mk (Kd.R_lower ho58 (below_size (by repeat (first | (with_reducible first | exact HB.out | apply below_alloc | apply pw_below_drewN | apply below_drew1) | exact HB.out)))); have n1_ := Aside0.mk (below_step (by repeat (first | (with_reducible first | exact HB.out | apply below_alloc | apply pw_below_drewN | apply below_drew1) | exact HB.out)) hb); clear HB; have HO125 := n0_; have HB := n1_; clear n0_ n1_; clear hb ho58; have hcv59 := own_string (P := Try.prog) Try.underlying25 Try.underlying5 Try.underlying9 (Kd.own_of_R HO125.out)))
                                    go_roundg k2
                                    case measure => have := HK1.out; have := HK2.out; omega
                                    case rel => exact ⟨((x3_2 ++ (⟨#[92]⟩ : ByteArray)) ++ (strOfNums y123)), (wrap64 (x6_2 + 1)), (by first | rfl | (simp; done) | (simp [*]; done)), (by first | rfl | (simp; done) | (simp [*]; done)), H', ⟨by have := HK1.out; have := HK2.out; omega⟩, ⟨by repeat (first | (with_reducible first | exact HB.out | apply below_alloc | apply pw_below_drewN | apply below_drew1) | exact HB.out)⟩⟩
                                  · rw [if_neg c56] at H
                                    exact absurd H (by simp)
                                · rw [if_neg c55] at H
                                  exact absurd H (by simp)
                    · rw [if_neg c8] at H
                      have c8b0 : decide (97 ≤ (bt (rdOf ByteArray.empty l0 x10_1) x6_2)) = false := decide_eq_false c8
                      clear c8
                      by_cases c60 : (bt (rdOf ByteArray.empty l0 x10_1) x6_2) ≥ 48
                      · rw [if_pos c60] at H
                        have c60b0 : decide (48 ≤ (bt (rdOf ByteArray.empty l0 x10_1) x6_2)) = true := decide_eq_true c60
                        clear c60
                        by_cases c61 : (bt (rdOf ByteArray.empty l0 x10_1) x6_2) ≤ 57
                        · rw [if_pos c61] at H
                          have c61b0 : decide ((bt (rdOf ByteArray.empty l0 x10_1) x6_2) ≤ 57) = true := decide_eq_true c61
                          clear c61
                          have c62b0 := eq_true (of_decide_eq_true (by first | (with_reducible assumption) | assumption) : 0 ≤ x6_2)
                          by_cases c63 : x6_2 ≤ (wrap64 (x6_2 + 1))
                          · rw [if_pos c63] at H
                            have c63b0 := eq_true c63
                            have c63b1 : decide (x6_2 ≤ (wrap64 (x6_2 + 1))) = true := decide_eq_true c63
                            by_cases c64 : (wrap64 (x6_2 + 1)) ≤ ((rdOf ByteArray.empty l0 x10_1).size : Int)
                            · rw [if_pos c64] at H
                              have c64b0 := eq_true c64
                              have c64b1 : decide ((wrap64 (x6_2 + 1)) ≤ ((rdOf ByteArray.empty l0 x10_1).size : Int)) = true := decide_eq_true c64
                              by_cases c65 : x3_2.size + ((rdOf ByteArray.empty l0 x10_1).extract (x6_2 : Int).toNat ((wrap64 (x6_2 + 1)) : Int).toNat).size ≤ 9223372036854775807
                              · rw [if_pos c65] at H
                                have c65b0 := eq_true c65
                                have c65b1 : decide (x3_2.size + ((rdOf ByteArray.empty l0 x10_1).extract (x6_2 : Int).toNat ((wrap64 (x6_2 + 1)) : Int).toNat).size ≤ 9223372036854775807) = true := decide_eq_true c65
                                try have c65b2 : (9223372036854775807 < x3_2.size + ((rdOf ByteArray.empty l0 x10_1).extract (x6_2 : Int).toNat ((wrap64 (x6_2 + 1)) : Int).toNat).size) = False := eq_false (Nat.not_lt.2 c65)
                                have H' := Aside0.mk H
                                clear H
                                have p7 : 0 ≤ (x6_2 : Int) := of_decide_eq_true (by first | (with_reducible assumption) | assumption)
                                have q7 : x6_2 < ((rdOf ByteArray.empty l0 x10_1).size : Int) := of_decide_eq_true (by first | (with_reducible assumption) | assumption)
                                have hx7 := bt_at (rdOf ByteArray.empty l0 x10_1) x6_2
                                replace p7 := eq_true p7
                                replace q7 := eq_true q7
                                go_wp2
                                go_roundg k2
                                case measure => have := HK1.out; have := HK2.out; omega
                                case rel => exact ⟨(x3_2 ++ ((rdOf ByteArray.empty l0 x10_1).extract (x6_2 : Int).toNat ((wrap64 (x6_2 + 1)) : Int).toNat)), (wrap64 (x6_2 + 1)), (by first | rfl | (simp; done) | (simp [*]; done)), (by first | rfl | (simp; done) | (simp [*]; done)), H', ⟨by have := HK1.out; have := HK2.out; omega⟩, ⟨by repeat (first | (with_reducible first | exact HB.out | apply below_alloc | apply pw_below_drewN | apply below_drew1) | exact HB.out)⟩⟩
                              · rw [if_neg c65] at H
                                exact absurd H (by simp)
                            · rw [if_neg c64] at H
                              exact absurd H (by simp)
                          · rw [if_neg c63] at H
                            exact absurd H (by simp)
                        · rw [if_neg c61] at H
                          have c61b0 : decide ((bt (rdOf ByteArray.empty l0 x10_1) x6_2) ≤ 57) = false := decide_eq_false c61
                          clear c61
                          by_cases c66 : (bt (rdOf ByteArray.empty l0 x10_1) x6_2) = 45
                          · rw [if_pos c66] at H
                            have c66b0 : ((bt (rdOf ByteArray.empty l0 x10_1) x6_2) == 45) = true := beq_iff_eq.mpr c66
                            have c66b1 : ((bt (rdOf ByteArray.empty l0 x10_1) x6_2) != 45) = false := bne_eq_false_iff_eq.mpr c66
                            clear c66
                            have c67b0 := eq_true (of_decide_eq_true (by first | (with_reducible assumption) | assumption) : 0 ≤ x6_2)
                            by_cases c68 : x6_2 ≤ (wrap64 (x6_2 + 1))
                            · rw [if_pos c68] at H
                              have c68b0 := eq_true c68
                              have c68b1 : decide (x6_2 ≤ (wrap64 (x6_2 + 1))) = true := decide_eq_true c68
                              by_cases c69 : (wrap64 (x6_2 + 1)) ≤ ((rdOf ByteArray.empty l0 x10_1).size : Int)
                              · rw [if_pos c69] at H
                                have c69b0 := eq_true c69
                                have c69b1 : decide ((wrap64 (x6_2 + 1)) ≤ ((rdOf ByteArray.empty l0 x10_1).size : Int)) = true := decide_eq_true c69
                                by_cases c70 : x3_2.size + ((rdOf ByteArray.empty l0 x10_1).extract (x6_2 : Int).toNat ((wrap64 (x6_2 + 1)) : Int).toNat).size ≤ 9223372036854775807
                                · rw [if_pos c70] at H
                                  have c70b0 := eq_true c70
                                  have c70b1 : decide (x3_2.size + ((rdOf ByteArray.empty l0 x10_1).extract (x6_2 : Int).toNat ((wrap64 (x6_2 + 1)) : Int).toNat).size ≤ 9223372036854775807) = true := decide_eq_true c70
                                  try have c70b2 : (9223372036854775807 < x3_2.size + ((rdOf ByteArray.empty l0 x10_1).extract (x6_2 : Int).toNat ((wrap64 (x6_2 + 1)) : Int).toNat).size) = False := eq_false (Nat.not_lt.2 c70)
                                  have H' := Aside0.mk H
                                  clear H
                                  have p7 : 0 ≤ (x6_2 : Int) := of_decide_eq_true (by first | (with_reducible assumption) | assumption)
                                  have q7 : x6_2 < ((rdOf ByteArray.empty l0 x10_1).size : Int) := of_decide_eq_true (by first | (with_reducible assumption) | assumption)
                                  have hx7 := bt_at (rdOf ByteArray.empty l0 x10_1) x6_2
                                  replace p7 := eq_true p7
                                  replace q7 := eq_true q7
                                  go_wp2
                                  go_roundg k2
                                  case measure => have := HK1.out; have := HK2.out; omega
                                  case rel => exact ⟨(x3_2 ++ ((rdOf ByteArray.empty l0 x10_1).extract (x6_2 : Int).toNat ((wrap64 (x6_2 + 1)) : Int).toNat)), (wrap64 (x6_2 + 1)), (by first | rfl | (simp; done) | (simp [*]; done)), (by first | rfl | (simp; done) | (simp [*]; done)), H', ⟨by have := HK1.out; have := HK2.out; omega⟩, ⟨by repeat (first | (with_reducible first | exact HB.out | apply below_alloc | apply pw_below_drewN | apply below_drew1) | exact HB.out)⟩⟩
                                · rw [if_neg c70] at H
                                  exact absurd H (by simp)
                              · rw [if_neg c69] at H
                                exact absurd H (by simp)
                            · rw [if_neg c68] at H
                              exact absurd H (by simp)
                          · rw [if_neg c66] at H
                            have c66b0 : ((bt (rdOf ByteArray.empty l0 x10_1) x6_2) == 45) = false := beq_eq_false_iff_ne.mpr c66
                            have c66b1 : ((bt (rdOf ByteArray.empty l0 x10_1) x6_2) != 45) = true := bne_iff_ne.mpr c66
                            by_cases c71 : (bt (rdOf ByteArray.empty l0 x10_1) x6_2) = 95
                            · rw [if_pos c71] at H
                              have c71b0 : ((bt (rdOf ByteArray.empty l0 x10_1) x6_2) == 95) = true := beq_iff_eq.mpr c71
                              have c71b1 : ((bt (rdOf ByteArray.empty l0 x10_1) x6_2) != 95) = false := bne_eq_false_iff_eq.mpr c71
                              clear c71
                              have c72b0 := eq_true (of_decide_eq_true (by first | (with_reducible assumption) | assumption) : 0 ≤ x6_2)
                              by_cases c73 : x6_2 ≤ (wrap64 (x6_2 + 1))
                              · rw [if_pos c73] at H
                                have c73b0 := eq_true c73
                                have c73b1 : decide (x6_2 ≤ (wrap64 (x6_2 + 1))) = true := decide_eq_true c73
                                by_cases c74 : (wrap64 (x6_2 + 1)) ≤ ((rdOf ByteArray.empty l0 x10_1).size : Int)
                                · rw [if_pos c74] at H
                                  have c74b0 := eq_true c74
                                  have c74b1 : decide ((wrap64 (x6_2 + 1)) ≤ ((rdOf ByteArray.empty l0 x10_1).size : Int)) = true := decide_eq_true c74
                                  by_cases c75 : x3_2.size + ((rdOf ByteArray.empty l0 x10_1).extract (x6_2 : Int).toNat ((wrap64 (x6_2 + 1)) : Int).toNat).size ≤ 9223372036854775807
                                  · rw [if_pos c75] at H
                                    have c75b0 := eq_true c75
                                    have c75b1 : decide (x3_2.size + ((rdOf ByteArray.empty l0 x10_1).extract (x6_2 : Int).toNat ((wrap64 (x6_2 + 1)) : Int).toNat).size ≤ 9223372036854775807) = true := decide_eq_true c75
                                    try have c75b2 : (9223372036854775807 < x3_2.size + ((rdOf ByteArray.empty l0 x10_1).extract (x6_2 : Int).toNat ((wrap64 (x6_2 + 1)) : Int).toNat).size) = False := eq_false (Nat.not_lt.2 c75)
                                    have H' := Aside0.mk H
                                    clear H
                                    have p7 : 0 ≤ (x6_2 : Int) := of_decide_eq_true (by first | (with_reducible assumption) | assumption)
                                    have q7 : x6_2 < ((rdOf ByteArray.empty l0 x10_1).size : Int) := of_decide_eq_true (by first | (with_reducible assumption) | assumption)
                                    have hx7 := bt_at (rdOf ByteArray.empty l0 x10_1) x6_2
                                    replace p7 := eq_true p7
                                    replace q7 := eq_true q7
                                    go_wp2
                                    go_roundg k2
                                    case measure => have := HK1.out; have := HK2.out; omega
                                    case rel => exact ⟨(x3_2 ++ ((rdOf ByteArray.empty l0 x10_1).extract (x6_2 : Int).toNat ((wrap64 (x6_2 + 1)) : Int).toNat)), (wrap64 (x6_2 + 1)), (by first | rfl | (simp; done) | (simp [*]; done)), (by first | rfl | (simp; done) | (simp [*]; done)), H', ⟨by have := HK1.out; have := HK2.out; omega⟩, ⟨by repeat (first | (with_reducible first | exact HB.out | apply below_alloc | apply pw_below_drewN | apply below_drew1) | exact HB.out)⟩⟩
                                  · rw [if_neg c75] at H
                                    exact absurd H (by simp)
                                · rw [if_neg c74] at H
                                  exact absurd H (by simp)
                              · rw [if_neg c73] at H
                                exact absurd H (by simp)
                            · rw [if_neg c71] at H
                              have c71b0 : ((bt (rdOf ByteArray.empty l0 x10_1) x6_2) == 95) = false := beq_eq_false_iff_ne.mpr c71
                              have c71b1 : ((bt (rdOf ByteArray.empty l0 x10_1) x6_2) != 95) = true := bne_iff_ne.mpr c71
                              by_cases c76 : (bt (rdOf ByteArray.empty l0 x10_1) x6_2) = 42
                              · rw [if_pos c76] at H
                                have c76b0 : ((bt (rdOf ByteArray.empty l0 x10_1) x6_2) == 42) = true := beq_iff_eq.mpr c76
                                have c76b1 : ((bt (rdOf ByteArray.empty l0 x10_1) x6_2) != 42) = false := bne_eq_false_iff_eq.mpr c76
                                clear c76
                                have c77b0 := eq_true (of_decide_eq_true (by first | (with_reducible assumption) | assumption) : 0 ≤ x6_2)
                                by_cases c78 : x6_2 ≤ (wrap64 (x6_2 + 1))
                                · rw [if_pos c78] at H
                                  have c78b0 := eq_true c78
                                  have c78b1 : decide (x6_2 ≤ (wrap64 (x6_2 + 1))) = true := decide_eq_true c78
                                  by_cases c79 : (wrap64 (x6_2 + 1)) ≤ ((rdOf ByteArray.empty l0 x10_1).size : Int)
                                  · rw [if_pos c79] at H
                                    have c79b0 := eq_true c79
                                    have c79b1 : decide ((wrap64 (x6_2 + 1)) ≤ ((rdOf ByteArray.empty l0 x10_1).size : Int)) = true := decide_eq_true c79
                                    by_cases c80 : x3_2.size + ((rdOf ByteArray.empty l0 x10_1).extract (x6_2 : Int).toNat ((wrap64 (x6_2 + 1)) : Int).toNat).size ≤ 9223372036854775807
                                    · rw [if_pos c80] at H
                                      have c80b0 := eq_true c80
                                      have c80b1 : decide (x3_2.size + ((rdOf ByteArray.empty l0 x10_1).extract (x6_2 : Int).toNat ((wrap64 (x6_2 + 1)) : Int).toNat).size ≤ 9223372036854775807) = true := decide_eq_true c80
                                      try have c80b2 : (9223372036854775807 < x3_2.size + ((rdOf ByteArray.empty l0 x10_1).extract (x6_2 : Int).toNat ((wrap64 (x6_2 + 1)) : Int).toNat).size) = False := eq_false (Nat.not_lt.2 c80)
                                      have H' := Aside0.mk H
                                      clear H
                                      have p7 : 0 ≤ (x6_2 : Int) := of_decide_eq_true (by first | (with_reducible assumption) | assumption)
                                      have q7 : x6_2 < ((rdOf ByteArray.empty l0 x10_1).size : Int) := of_decide_eq_true (by first | (with_reducible assumption) | assumption)
                                      have hx7 := bt_at (rdOf ByteArray.empty l0 x10_1) x6_2
                                      replace p7 := eq_true p7
                                      replace q7 := eq_true q7
                                      go_wp2
                                      go_roundg k2
                                      case measure => have := HK1.out; have := HK2.out; omega
                                      case rel => exact ⟨(x3_2 ++ ((rdOf ByteArray.empty l0 x10_1).extract (x6_2 : Int).toNat ((wrap64 (x6_2 + 1)) : Int).toNat)), (wrap64 (x6_2 + 1)), (by first | rfl | (simp; done) | (simp [*]; done)), (by first | rfl | (simp; done) | (simp [*]; done)), H', ⟨by have := HK1.out; have := HK2.out; omega⟩, ⟨by repeat (first | (with_reducible first | exact HB.out | apply below_alloc | apply pw_below_drewN | apply below_drew1) | exact HB.out)⟩⟩
                                    · rw [if_neg c80] at H
                                      exact absurd H (by simp)
                                  · rw [if_neg c79] at H
                                    exact absurd H (by simp)
                                · rw [if_neg c78] at H
                                  exact absurd H (by simp)
                              · rw [if_neg c76] at H
                                have c76b0 : ((bt (rdOf ByteArray.empty l0 x10_1) x6_2) == 42) = false := beq_eq_false_iff_ne.mpr c76
                                have c76b1 : ((bt (rdOf ByteArray.empty l0 x10_1) x6_2) != 42) = true := bne_iff_ne.mpr c76
                                by_cases c81 : x3_2.size + 1 ≤ 9223372036854775807
                                · rw [if_pos c81] at H
                                  have c81b0 := eq_true c81
                                  have c81b1 : decide (x3_2.size + 1 ≤ 9223372036854775807) = true := decide_eq_true c81
                                  try have c81b2 : (9223372036854775807 < x3_2.size + 1) = False := eq_false (Nat.not_lt.2 c81)
                                  obtain ⟨y126, hy126⟩ : ∃ y_ : List Int, y_ = (([(48 + ((Int.tdiv (bt (rdOf ByteArray.empty l0 x10_1) x6_2) 100) % 256)) % 256, 48 + (((Int.tdiv (bt (rdOf ByteArray.empty l0 x10_1) x6_2) 10) % 256) % 10), (48 + (Int.tmod (bt (rdOf ByteArray.empty l0 x10_1) x6_2) 10)) % 256] : List Int)) := ⟨_, rfl⟩
                                  replace H : (if (x3_2 ++ (⟨#[92]⟩ : ByteArray)).size + (strOfNums y126).size ≤ 9223372036854775807 then (bolterlaw02_text.l1 k2 ((x3_2 ++ (⟨#[92]⟩ : ByteArray)) ++ (strOfNums y126)) (rdOf ByteArray.empty l0 x10_1) (wrap64 (x6_2 + 1)) l0 (l0.length : Int) x10_1) else (none)) = some r := by first | (rw [hy126]; with_reducible exact H) | (have H2_ := (Option.bind_some _ _).symm.trans H; rw [hy126]; with_reducible exact H2_) | (have H2_ := (Option.bind_some _ _).symm.trans H; with_reducible exact H2_) | with_reducible exact H | (rw [hy126]; exact H) | exact H
                                  have Ny126 := Aside0.mk hy126
                                  clear hy126
                                  by_cases c82 : (x3_2 ++ (⟨#[92]⟩ : ByteArray)).size + (strOfNums y126).size ≤ 9223372036854775807
                                  · rw [if_pos c82] at H
                                    have c82b0 := eq_true c82
                                    have c82b1 : decide ((x3_2 ++ (⟨#[92]⟩ : ByteArray)).size + (strOfNums y126).size ≤ 9223372036854775807) = true := decide_eq_true c82
                                    try have c82b2 : (9223372036854775807 < (x3_2 ++ (⟨#[92]⟩ : ByteArray)).size + (strOfNums y126).size) = False := eq_false (Nat.not_lt.2 c82)
                                    have H' := Aside0.mk H
                                    clear H
                                    have p7 : 0 ≤ (x6_2 : Int) := of_decide_eq_true (by first | (with_reducible assumption) | assumption)
                                    have q7 : x6_2 < ((rdOf ByteArray.empty l0 x10_1).size : Int) := of_decide_eq_true (by first | (with_reducible assumption) | assumption)
                                    have hx7 := bt_at (rdOf ByteArray.empty l0 x10_1) x6_2
                                    replace p7 := eq_true p7
                                    replace q7 := eq_true q7
                                    go_wp2_with (first | ((with_reducible refine gate_dst (N := 68) rfl ?_); refine Kd.R_lit (Kd.int .u8) _ 5 ?hg (N := 68) ?hd (xs := ([(48 + ((Int.tdiv (bt (rdOf ByteArray.empty l0 x10_1) x6_2) 100) % 256)) % 256, 48 + (((Int.tdiv (bt (rdOf ByteArray.empty l0 x10_1) x6_2) 10) % 256) % 10), (48 + (Int.tmod (bt (rdOf ByteArray.empty l0 x10_1) x6_2) 10)) % 256] : List Int)) (inner := [.int .u8 ((48 + ((Int.tdiv (bt (rdOf ByteArray.empty l0 x10_1) x6_2) 100) % 256)) % 256), .int .u8 (48 + (((Int.tdiv (bt (rdOf ByteArray.empty l0 x10_1) x6_2) 10) % 256) % 10)), .int .u8 ((48 + (Int.tmod (bt (rdOf ByteArray.empty l0 x10_1) x6_2) 10)) % 256)]) (ok := fun _ => True) (okp := fun _ => True) ?hr ?hp (fun _ hk => hk) trivial (Below.refl _ _) (Nat.le_refl _) (by simp) ?_; (case hd => rfl); (case hg => rfl); (case hr => first | (go_simp; done) | (go_simp; rfl)); (case hp => exact (Reps.one (show Kd.M (Kd.int .u8) _ _ _ ((48 + ((Int.tdiv (bt (rdOf ByteArray.empty l0 x10_1) x6_2) 100) % 256)) % 256) [.int .u8 ((48 + ((Int.tdiv (bt (rdOf ByteArray.empty l0 x10_1) x6_2) 100) % 256)) % 256)] from rfl) (Reps.one (show Kd.M (Kd.int .u8) _ _ _ (48 + (((Int.tdiv (bt (rdOf ByteArray.empty l0 x10_1) x6_2) 10) % 256) % 10)) [.int .u8 (48 + (((Int.tdiv (bt (rdOf ByteArray.empty l0 x10_1) x6_2) 10) % 256) % 10))] from rfl) (Reps.one (show Kd.M (Kd.int .u8) _ _ _ ((48 + (Int.tmod (bt (rdOf ByteArray.empty l0 x10_1) x6_2) 10)) % 256) [.int .u8 ((48 + (Int.tmod (bt (rdOf ByteArray.empty l0 x10_1) x6_2) 10)) % 256)] from rfl) (Reps.none _ _))))); intro v127 w83 ho84 hb hg_ hnew_; clear hg_ hnew_; (first | rw [← Ny126.out] at ho84 | (simp only [Int.reduceToNat] at ho84; rw [← Ny126.out] at ho84)); have n0_ := Aside0.mk (Kd.R_lower ho84 (below_size (by repeat (first | (with_reducible first | exact HB.out | apply below_alloc | apply pw_below_drewN | apply below_drew1) | exact HB.out)))); have n1_ := Aside0.mk (below_step (by repeat (first | (with_reducible first | exact HB.out | apply below_alloc | apply pw_below_drewN | apply below_drew1) | exact HB.out)) hb); clear HB; have HO128 := n0_; have HB := n1_; clear n0_ n1_; clear hb ho84; have hcv85 := own_string (P := Try.prog) Try.underlying25 Try.underlying5 Try.underlying9 (Kd.own_of_R HO128.out)))
                                    go_roundg k2
                                    case measure => have := HK1.out; have := HK2.out; omega
                                    case rel => exact ⟨((x3_2 ++ (⟨#[92]⟩ : ByteArray)) ++ (strOfNums y126)), (wrap64 (x6_2 + 1)), (by first | rfl | (simp; done) | (simp [*]; done)), (by first | rfl | (simp; done) | (simp [*]; done)), H', ⟨by have := HK1.out; have := HK2.out; omega⟩, ⟨by repeat (first | (with_reducible first | exact HB.out | apply below_alloc | apply pw_below_drewN | apply below_drew1) | exact HB.out)⟩⟩
                                  · rw [if_neg c82] at H
                                    exact absurd H (by simp)
                                · rw [if_neg c81] at H
                                  exact absurd H (by simp)
                      · rw [if_neg c60] at H
                        have c60b0 : decide (48 ≤ (bt (rdOf ByteArray.empty l0 x10_1) x6_2)) = false := decide_eq_false c60
                        clear c60
                        by_cases c86 : (bt (rdOf ByteArray.empty l0 x10_1) x6_2) = 45
                        · rw [if_pos c86] at H
                          have c86b0 : ((bt (rdOf ByteArray.empty l0 x10_1) x6_2) == 45) = true := beq_iff_eq.mpr c86
                          have c86b1 : ((bt (rdOf ByteArray.empty l0 x10_1) x6_2) != 45) = false := bne_eq_false_iff_eq.mpr c86
                          clear c86
                          have c87b0 := eq_true (of_decide_eq_true (by first | (with_reducible assumption) | assumption) : 0 ≤ x6_2)
                          by_cases c88 : x6_2 ≤ (wrap64 (x6_2 + 1))
                          · rw [if_pos c88] at H
                            have c88b0 := eq_true c88
                            have c88b1 : decide (x6_2 ≤ (wrap64 (x6_2 + 1))) = true := decide_eq_true c88
                            by_cases c89 : (wrap64 (x6_2 + 1)) ≤ ((rdOf ByteArray.empty l0 x10_1).size : Int)
                            · rw [if_pos c89] at H
                              have c89b0 := eq_true c89
                              have c89b1 : decide ((wrap64 (x6_2 + 1)) ≤ ((rdOf ByteArray.empty l0 x10_1).size : Int)) = true := decide_eq_true c89
                              by_cases c90 : x3_2.size + ((rdOf ByteArray.empty l0 x10_1).extract (x6_2 : Int).toNat ((wrap64 (x6_2 + 1)) : Int).toNat).size ≤ 9223372036854775807
                              · rw [if_pos c90] at H
                                have c90b0 := eq_true c90
                                have c90b1 : decide (x3_2.size + ((rdOf ByteArray.empty l0 x10_1).extract (x6_2 : Int).toNat ((wrap64 (x6_2 + 1)) : Int).toNat).size ≤ 9223372036854775807) = true := decide_eq_true c90
                                try have c90b2 : (9223372036854775807 < x3_2.size + ((rdOf ByteArray.empty l0 x10_1).extract (x6_2 : Int).toNat ((wrap64 (x6_2 + 1)) : Int).toNat).size) = False := eq_false (Nat.not_lt.2 c90)
                                have H' := Aside0.mk H
                                clear H
                                have p7 : 0 ≤ (x6_2 : Int) := of_decide_eq_true (by first | (with_reducible assumption) | assumption)
                                have q7 : x6_2 < ((rdOf ByteArray.empty l0 x10_1).size : Int) := of_decide_eq_true (by first | (with_reducible assumption) | assumption)
                                have hx7 := bt_at (rdOf ByteArray.empty l0 x10_1) x6_2
                                replace p7 := eq_true p7
                                replace q7 := eq_true q7
                                go_wp2
                                go_roundg k2
                                case measure => have := HK1.out; have := HK2.out; omega
                                case rel => exact ⟨(x3_2 ++ ((rdOf ByteArray.empty l0 x10_1).extract (x6_2 : Int).toNat ((wrap64 (x6_2 + 1)) : Int).toNat)), (wrap64 (x6_2 + 1)), (by first | rfl | (simp; done) | (simp [*]; done)), (by first | rfl | (simp; done) | (simp [*]; done)), H', ⟨by have := HK1.out; have := HK2.out; omega⟩, ⟨by repeat (first | (with_reducible first | exact HB.out | apply below_alloc | apply pw_below_drewN | apply below_drew1) | exact HB.out)⟩⟩
                              · rw [if_neg c90] at H
                                exact absurd H (by simp)
                            · rw [if_neg c89] at H
                              exact absurd H (by simp)
                          · rw [if_neg c88] at H
                            exact absurd H (by simp)
                        · rw [if_neg c86] at H
                          have c86b0 : ((bt (rdOf ByteArray.empty l0 x10_1) x6_2) == 45) = false := beq_eq_false_iff_ne.mpr c86
                          have c86b1 : ((bt (rdOf ByteArray.empty l0 x10_1) x6_2) != 45) = true := bne_iff_ne.mpr c86
                          by_cases c91 : (bt (rdOf ByteArray.empty l0 x10_1) x6_2) = 95
                          · rw [if_pos c91] at H
                            have c91b0 : ((bt (rdOf ByteArray.empty l0 x10_1) x6_2) == 95) = true := beq_iff_eq.mpr c91
                            have c91b1 : ((bt (rdOf ByteArray.empty l0 x10_1) x6_2) != 95) = false := bne_eq_false_iff_eq.mpr c91
                            clear c91
                            have c92b0 := eq_true (of_decide_eq_true (by first | (with_reducible assumption) | assumption) : 0 ≤ x6_2)
                            by_cases c93 : x6_2 ≤ (wrap64 (x6_2 + 1))
                            · rw [if_pos c93] at H
                              have c93b0 := eq_true c93
                              have c93b1 : decide (x6_2 ≤ (wrap64 (x6_2 + 1))) = true := decide_eq_true c93
                              by_cases c94 : (wrap64 (x6_2 + 1)) ≤ ((rdOf ByteArray.empty l0 x10_1).size : Int)
                              · rw [if_pos c94] at H
                                have c94b0 := eq_true c94
                                have c94b1 : decide ((wrap64 (x6_2 + 1)) ≤ ((rdOf ByteArray.empty l0 x10_1).size : Int)) = true := decide_eq_true c94
                                by_cases c95 : x3_2.size + ((rdOf ByteArray.empty l0 x10_1).extract (x6_2 : Int).toNat ((wrap64 (x6_2 + 1)) : Int).toNat).size ≤ 9223372036854775807
                                · rw [if_pos c95] at H
                                  have c95b0 := eq_true c95
                                  have c95b1 : decide (x3_2.size + ((rdOf ByteArray.empty l0 x10_1).extract (x6_2 : Int).toNat ((wrap64 (x6_2 + 1)) : Int).toNat).size ≤ 9223372036854775807) = true := decide_eq_true c95
                                  try have c95b2 : (9223372036854775807 < x3_2.size + ((rdOf ByteArray.empty l0 x10_1).extract (x6_2 : Int).toNat ((wrap64 (x6_2 + 1)) : Int).toNat).size) = False := eq_false (Nat.not_lt.2 c95)
                                  have H' := Aside0.mk H
                                  clear H
                                  have p7 : 0 ≤ (x6_2 : Int) := of_decide_eq_true (by first | (with_reducible assumption) | assumption)
                                  have q7 : x6_2 < ((rdOf ByteArray.empty l0 x10_1).size : Int) := of_decide_eq_true (by first | (with_reducible assumption) | assumption)
                                  have hx7 := bt_at (rdOf ByteArray.empty l0 x10_1) x6_2
                                  replace p7 := eq_true p7
                                  replace q7 := eq_true q7
                                  go_wp2
                                  go_roundg k2
                                  case measure => have := HK1.out; have := HK2.out; omega
                                  case rel => exact ⟨(x3_2 ++ ((rdOf ByteArray.empty l0 x10_1).extract (x6_2 : Int).toNat ((wrap64 (x6_2 + 1)) : Int).toNat)), (wrap64 (x6_2 + 1)), (by first | rfl | (simp; done) | (simp [*]; done)), (by first | rfl | (simp; done) | (simp [*]; done)), H', ⟨by have := HK1.out; have := HK2.out; omega⟩, ⟨by repeat (first | (with_reducible first | exact HB.out | apply below_alloc | apply pw_below_drewN | apply below_drew1) | exact HB.out)⟩⟩
                                · rw [if_neg c95] at H
                                  exact absurd H (by simp)
                              · rw [if_neg c94] at H
                                exact absurd H (by simp)
                            · rw [if_neg c93] at H
                              exact absurd H (by simp)
                          · rw [if_neg c91] at H
                            have c91b0 : ((bt (rdOf ByteArray.empty l0 x10_1) x6_2) == 95) = false := beq_eq_false_iff_ne.mpr c91
                            have c91b1 : ((bt (rdOf ByteArray.empty l0 x10_1) x6_2) != 95) = true := bne_iff_ne.mpr c91
                            by_cases c96 : (bt (rdOf ByteArray.empty l0 x10_1) x6_2) = 42
                            · rw [if_pos c96] at H
                              have c96b0 : ((bt (rdOf ByteArray.empty l0 x10_1) x6_2) == 42) = true := beq_iff_eq.mpr c96
                              have c96b1 : ((bt (rdOf ByteArray.empty l0 x10_1) x6_2) != 42) = false := bne_eq_false_iff_eq.mpr c96
                              clear c96
                              have c97b0 := eq_true (of_decide_eq_true (by first | (with_reducible assumption) | assumption) : 0 ≤ x6_2)
                              by_cases c98 : x6_2 ≤ (wrap64 (x6_2 + 1))
                              · rw [if_pos c98] at H
                                have c98b0 := eq_true c98
                                have c98b1 : decide (x6_2 ≤ (wrap64 (x6_2 + 1))) = true := decide_eq_true c98
                                by_cases c99 : (wrap64 (x6_2 + 1)) ≤ ((rdOf ByteArray.empty l0 x10_1).size : Int)
                                · rw [if_pos c99] at H
                                  have c99b0 := eq_true c99
                                  have c99b1 : decide ((wrap64 (x6_2 + 1)) ≤ ((rdOf ByteArray.empty l0 x10_1).size : Int)) = true := decide_eq_true c99
                                  by_cases c100 : x3_2.size + ((rdOf ByteArray.empty l0 x10_1).extract (x6_2 : Int).toNat ((wrap64 (x6_2 + 1)) : Int).toNat).size ≤ 9223372036854775807
                                  · rw [if_pos c100] at H
                                    have c100b0 := eq_true c100
                                    have c100b1 : decide (x3_2.size + ((rdOf ByteArray.empty l0 x10_1).extract (x6_2 : Int).toNat ((wrap64 (x6_2 + 1)) : Int).toNat).size ≤ 9223372036854775807) = true := decide_eq_true c100
                                    try have c100b2 : (9223372036854775807 < x3_2.size + ((rdOf ByteArray.empty l0 x10_1).extract (x6_2 : Int).toNat ((wrap64 (x6_2 + 1)) : Int).toNat).size) = False := eq_false (Nat.not_lt.2 c100)
                                    have H' := Aside0.mk H
                                    clear H
                                    have p7 : 0 ≤ (x6_2 : Int) := of_decide_eq_true (by first | (with_reducible assumption) | assumption)
                                    have q7 : x6_2 < ((rdOf ByteArray.empty l0 x10_1).size : Int) := of_decide_eq_true (by first | (with_reducible assumption) | assumption)
                                    have hx7 := bt_at (rdOf ByteArray.empty l0 x10_1) x6_2
                                    replace p7 := eq_true p7
                                    replace q7 := eq_true q7
                                    go_wp2
                                    go_roundg k2
                                    case measure => have := HK1.out; have := HK2.out; omega
                                    case rel => exact ⟨(x3_2 ++ ((rdOf ByteArray.empty l0 x10_1).extract (x6_2 : Int).toNat ((wrap64 (x6_2 + 1)) : Int).toNat)), (wrap64 (x6_2 + 1)), (by first | rfl | (simp; done) | (simp [*]; done)), (by first | rfl | (simp; done) | (simp [*]; done)), H', ⟨by have := HK1.out; have := HK2.out; omega⟩, ⟨by repeat (first | (with_reducible first | exact HB.out | apply below_alloc | apply pw_below_drewN | apply below_drew1) | exact HB.out)⟩⟩
                                  · rw [if_neg c100] at H
                                    exact absurd H (by simp)
                                · rw [if_neg c99] at H
                                  exact absurd H (by simp)
                              · rw [if_neg c98] at H
                                exact absurd H (by simp)
                            · rw [if_neg c96] at H
                              have c96b0 : ((bt (rdOf ByteArray.empty l0 x10_1) x6_2) == 42) = false := beq_eq_false_iff_ne.mpr c96
                              have c96b1 : ((bt (rdOf ByteArray.empty l0 x10_1) x6_2) != 42) = true := bne_iff_ne.mpr c96
                              by_cases c101 : x3_2.size + 1 ≤ 9223372036854775807
                              · rw [if_pos c101] at H
                                have c101b0 := eq_true c101
                                have c101b1 : decide (x3_2.size + 1 ≤ 9223372036854775807) = true := decide_eq_true c101
                                try have c101b2 : (9223372036854775807 < x3_2.size + 1) = False := eq_false (Nat.not_lt.2 c101)
                                obtain ⟨y129, hy129⟩ : ∃ y_ : List Int, y_ = (([(48 + ((Int.tdiv (bt (rdOf ByteArray.empty l0 x10_1) x6_2) 100) % 256)) % 256, 48 + (((Int.tdiv (bt (rdOf ByteArray.empty l0 x10_1) x6_2) 10) % 256) % 10), (48 + (Int.tmod (bt (rdOf ByteArray.empty l0 x10_1) x6_2) 10)) % 256] : List Int)) := ⟨_, rfl⟩
                                replace H : (if (x3_2 ++ (⟨#[92]⟩ : ByteArray)).size + (strOfNums y129).size ≤ 9223372036854775807 then (bolterlaw02_text.l1 k2 ((x3_2 ++ (⟨#[92]⟩ : ByteArray)) ++ (strOfNums y129)) (rdOf ByteArray.empty l0 x10_1) (wrap64 (x6_2 + 1)) l0 (l0.length : Int) x10_1) else (none)) = some r := by first | (rw [hy129]; with_reducible exact H) | (have H2_ := (Option.bind_some _ _).symm.trans H; rw [hy129]; with_reducible exact H2_) | (have H2_ := (Option.bind_some _ _).symm.trans H; with_reducible exact H2_) | with_reducible exact H | (rw [hy129]; exact H) | exact H
                                have Ny129 := Aside0.mk hy129
                                clear hy129
                                by_cases c102 : (x3_2 ++ (⟨#[92]⟩ : ByteArray)).size + (strOfNums y129).size ≤ 9223372036854775807
                                · rw [if_pos c102] at H
                                  have c102b0 := eq_true c102
                                  have c102b1 : decide ((x3_2 ++ (⟨#[92]⟩ : ByteArray)).size + (strOfNums y129).size ≤ 9223372036854775807) = true := decide_eq_true c102
                                  try have c102b2 : (9223372036854775807 < (x3_2 ++ (⟨#[92]⟩ : ByteArray)).size + (strOfNums y129).size) = False := eq_false (Nat.not_lt.2 c102)
                                  have H' := Aside0.mk H
                                  clear H
                                  have p7 : 0 ≤ (x6_2 : Int) := of_decide_eq_true (by first | (with_reducible assumption) | assumption)
                                  have q7 : x6_2 < ((rdOf ByteArray.empty l0 x10_1).size : Int) := of_decide_eq_true (by first | (with_reducible assumption) | assumption)
                                  have hx7 := bt_at (rdOf ByteArray.empty l0 x10_1) x6_2
                                  replace p7 := eq_true p7
                                  replace q7 := eq_true q7
                                  go_wp2_with (first | ((with_reducible refine gate_dst (N := 68) rfl ?_); refine Kd.R_lit (Kd.int .u8) _ 5 ?hg (N := 68) ?hd (xs := ([(48 + ((Int.tdiv (bt (rdOf ByteArray.empty l0 x10_1) x6_2) 100) % 256)) % 256, 48 + (((Int.tdiv (bt (rdOf ByteArray.empty l0 x10_1) x6_2) 10) % 256) % 10), (48 + (Int.tmod (bt (rdOf ByteArray.empty l0 x10_1) x6_2) 10)) % 256] : List Int)) (inner := [.int .u8 ((48 + ((Int.tdiv (bt (rdOf ByteArray.empty l0 x10_1) x6_2) 100) % 256)) % 256), .int .u8 (48 + (((Int.tdiv (bt (rdOf ByteArray.empty l0 x10_1) x6_2) 10) % 256) % 10)), .int .u8 ((48 + (Int.tmod (bt (rdOf ByteArray.empty l0 x10_1) x6_2) 10)) % 256)]) (ok := fun _ => True) (okp := fun _ => True) ?hr ?hp (fun _ hk => hk) trivial (Below.refl _ _) (Nat.le_refl _) (by simp) ?_; (case hd => rfl); (case hg => rfl); (case hr => first | (go_simp; done) | (go_simp; rfl)); (case hp => exact (Reps.one (show Kd.M (Kd.int .u8) _ _ _ ((48 + ((Int.tdiv (bt (rdOf ByteArray.empty l0 x10_1) x6_2) 100) % 256)) % 256) [.int .u8 ((48 + ((Int.tdiv (bt (rdOf ByteArray.empty l0 x10_1) x6_2) 100) % 256)) % 256)] from rfl) (Reps.one (show Kd.M (Kd.int .u8) _ _ _ (48 + (((Int.tdiv (bt (rdOf ByteArray.empty l0 x10_1) x6_2) 10) % 256) % 10)) [.int .u8 (48 + (((Int.tdiv (bt (rdOf ByteArray.empty l0 x10_1) x6_2) 10) % 256) % 10))] from rfl) (Reps.one (show Kd.M (Kd.int .u8) _ _ _ ((48 + (Int.tmod (bt (rdOf ByteArray.empty l0 x10_1) x6_2) 10)) % 256) [.int .u8 ((48 + (Int.tmod (bt (rdOf ByteArray.empty l0 x10_1) x6_2) 10)) % 256)] from rfl) (Reps.none _ _))))); intro v130 w103 ho104 hb hg_ hnew_; clear hg_ hnew_; (first | rw [← Ny129.out] at ho104 | (simp only [Int.reduceToNat] at ho104; rw [← Ny129.out] at ho104)); have n0_ := Aside0.mk (Kd.R_lower ho104 (below_size (by repeat (first | (with_reducible first | exact HB.out | apply below_alloc | apply pw_below_drewN | apply below_drew1) | exact HB.out)))); have n1_ := Aside0.mk (below_step (by repeat (first | (with_reducible first | exact HB.out | apply below_alloc | apply pw_below_drewN | apply below_drew1) | exact HB.out)) hb); clear HB; have HO131 := n0_; have HB := n1_; clear n0_ n1_; clear hb ho104; have hcv105 := own_string (P := Try.prog) Try.underlying25 Try.underlying5 Try.underlying9 (Kd.own_of_R HO131.out)))
                                  go_roundg k2
                                  case measure => have := HK1.out; have := HK2.out; omega
                                  case rel => exact ⟨((x3_2 ++ (⟨#[92]⟩ : ByteArray)) ++ (strOfNums y129)), (wrap64 (x6_2 + 1)), (by first | rfl | (simp; done) | (simp [*]; done)), (by first | rfl | (simp; done) | (simp [*]; done)), H', ⟨by have := HK1.out; have := HK2.out; omega⟩, ⟨by repeat (first | (with_reducible first | exact HB.out | apply below_alloc | apply pw_below_drewN | apply below_drew1) | exact HB.out)⟩⟩
                                · rw [if_neg c102] at H
                                  exact absurd H (by simp)
                              · rw [if_neg c101] at H
                                exact absurd H (by simp)
                  · rw [if_neg c6] at H
                    exact absurd H (by simp)
                · rw [if_neg c5] at H
                  have c5b0 : decide (x6_2 < ((rdOf ByteArray.empty l0 x10_1).size : Int)) = false := decide_eq_false c5
                  clear c5
                  by_cases c106 : x3_2.size + 1 ≤ 9223372036854775807
                  · rw [if_pos c106] at H
                    have c106b0 := eq_true c106
                    have c106b1 : decide (x3_2.size + 1 ≤ 9223372036854775807) = true := decide_eq_true c106
                    try have c106b2 : (9223372036854775807 < x3_2.size + 1) = False := eq_false (Nat.not_lt.2 c106)
                    have H' := Aside0.mk H
                    clear H
                    go_wp2
                    go_roundg k2
                    case measure => have := HK1.out; have := HK2.out; omega
                    case rel => exact ⟨(x3_2 ++ (⟨#[46]⟩ : ByteArray)), (wrap64 (x10_1 + 1)), (by first | rfl | (simp; done) | (simp [*]; done)), (by first | rfl | (simp; done) | (simp [*]; done)), H', ⟨by have := HK1.out; have := HK2.out; omega⟩, ⟨by repeat (first | (with_reducible first | exact HB.out | apply below_alloc | apply pw_below_drewN | apply below_drew1) | exact HB.out)⟩⟩
                  · rw [if_neg c106] at H
                    exact absurd H (by simp)
          · rw [if_neg c4] at H
            exact absurd H (by simp)
        · rw [if_neg c3] at H
          exact absurd H (by simp)
      · rw [if_neg c2] at H
        have c2b0 : decide (x10_1 < (l0.length : Int)) = false := decide_eq_false c2
        clear c2
        by_cases c107 : x3_1.toList = ([] : List UInt8)
        · rw [if_pos c107] at H
          have c107b0 : (x3_1.toList == ([] : List UInt8)) = true := beq_iff_eq.mpr c107
          have c107b1 : (x3_1.toList != ([] : List UInt8)) = false := bne_eq_false_iff_eq.mpr c107
          clear c107
          obtain rfl := Option.some.inj H
          go_wp2
          go_ret
          exact ⟨by first | rfl | (simp [errW_none, errW_some] <;> rfl) | (simp [*, errW_none, errW_some] <;> rfl), by repeat (first | (with_reducible first | exact HB.out | apply below_alloc | apply pw_below_drewN | apply below_drew1) | exact HB.out)⟩
        · rw [if_neg c107] at H
          have c107b0 : (x3_1.toList == ([] : List UInt8)) = false := beq_eq_false_iff_ne.mpr c107
          have c107b1 : (x3_1.toList != ([] : List UInt8)) = true := bne_iff_ne.mpr c107
          obtain rfl := Option.some.inj H
          go_wp2
          go_ret
          exact ⟨by first | rfl | (simp [errW_none, errW_some] <;> rfl) | (simp [*, errW_none, errW_some] <;> rfl), by repeat (first | (with_reducible first | exact HB.out | apply below_alloc | apply pw_below_drewN | apply below_drew1) | exact HB.out)⟩

end Go.Proofs.Ytihlimbdgipdeaa.PPar
