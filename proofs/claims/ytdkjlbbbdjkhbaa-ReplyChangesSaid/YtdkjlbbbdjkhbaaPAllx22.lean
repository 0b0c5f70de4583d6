-- Written by a program of this session (wip/tools/drive.py over the kit's printer): functions, contracts and rows (All).
import Derived.Test.YtdkjlbbbdjkhbaaPAllx0
namespace Go.Proofs.Ytdkjlbbbdjkhbaa.PAll
open Go.RowKit Go.Proofs.YtdkjlbbbdjkhbaaW.PrintWords Go.Proofs.YtdkjlbbbdjkhbaaW.PrintLast Go.Proofs.YtdkjlbbbdjkhbaaW.PrintMore
attribute [local go_sem] max2_int min2_int max_two min_two max_three min_three max_four min_four   -- for this text's walks alone
open Go.Proofs.Ytdkjlbbbdjkhbaa.Hand
set_option linter.unusedVariables false
set_option linter.unusedSimpArgs false

/-! ### reply_Changes: function 32 -/
def reply_Changes.j0 : Nat → Bool → Int → Bool → Option (Bool)
  | 0, _, _, _ => none
  | k + 1, x1, x6, x7 => if x7 = true then (some true) else (if x6 = 6 then (some (!x1)) else (some false))
def reply_Changes.f (k : Nat) (a0_0 : Int) (a0_1 : ByteArray) (a0_2 : Bool) (l0_3 : List (S43)) (a1 : Bool) : Option (Bool) := if a0_0 = 3 then (reply_Changes.j0 k a1 a0_0 (a0_0 == 3)) else (if a0_0 = 4 then (reply_Changes.j0 k a1 a0_0 (a0_0 == 4)) else (if a0_0 = 5 then (reply_Changes.j0 k a1 a0_0 (a0_0 == 5)) else (if a0_0 = 7 then (reply_Changes.j0 k a1 a0_0 (a0_0 == 7)) else (reply_Changes.j0 k a1 a0_0 (a0_0 == 8)))))
theorem reply_Changes.mono_l : ∀ k, (∀ y0 y1 y2, LeO (reply_Changes.j0 k y0 y1 y2) (reply_Changes.j0 (k + 1) y0 y1 y2))
  | 0 => fun _ _ _ r h => by simp [reply_Changes.j0] at h
  | k + 1 => by
    have ih0 := reply_Changes.mono_l k
    · intro y0 y1 y2
      unfold reply_Changes.j0
      repeat' first
      | (with_reducible exact ih0 _ _ _)
      | (with_reducible exact LeO.refl _)
      | (with_reducible exact LeO.none _)
      | (with_reducible refine LeO.ite ?_ ?_)
      | (with_reducible refine LeO.bind ?_ (fun _ => ?_))
      | exact ih0 _ _ _
      | exact LeO.none _
      | refine LeO.ite ?_ ?_
      | refine LeO.bind ?_ (fun _ => ?_)
theorem reply_Changes.mono : ∀ a0 a1 a2 a3 a4 k, LeO (reply_Changes.f k a0 a1 a2 a3 a4) (reply_Changes.f (k + 1) a0 a1 a2 a3 a4) := by
  intro a0 a1 a2 a3 a4 k
  have ih0 := reply_Changes.mono_l k
  unfold reply_Changes.f
  repeat' first
      | (with_reducible exact ih0 _ _ _)
      | (with_reducible exact LeO.refl _)
      | (with_reducible exact LeO.none _)
      | (with_reducible refine LeO.ite ?_ ?_)
      | (with_reducible refine LeO.bind ?_ (fun _ => ?_))
      | exact ih0 _ _ _
      | exact LeO.none _
      | refine LeO.ite ?_ ?_
      | refine LeO.bind ?_ (fun _ => ?_)
set_option maxHeartbeats 8000000 in
set_option maxRecDepth 100000 in
theorem reply_Changes.calls (k : Nat) (a0_0 : Int) (a0_1 : ByteArray) (a0_2 : Bool) (A0_3 : Option Addr) (c0_3 : Nat) (l0_3 : List (S43)) (a1 : Bool) (r : Bool) (w : World) (hr0_3 : Kd.C k43 w A0_3 l0_3.length l0_3) (hc0_3 : l0_3.length ≤ c0_3) (h : reply_Changes.f k a0_0 a0_1 a0_2 l0_3 a1 = some r) :
    Calls Try.prog 32 #[.agg #[.int .i64 a0_0, .string a0_1, .bool a0_2, .slice A0_3 l0_3.length c0_3], .bool a1] w fun e w' => e = .returned (.bool r) ∧ Below w.heap.size w w' := by
  have hu28 := Try.underlying28
  have HR0_3 := Aside0.mk hr0_3
  have HC0_3 := Aside0.mk hc0_3
  clear hr0_3 hc0_3
  have HB := Aside0.mk (Below.refl w.heap.size w)
  have H : (if a0_0 = 3 then (reply_Changes.j0 k a1 a0_0 (a0_0 == 3)) else (if a0_0 = 4 then (reply_Changes.j0 k a1 a0_0 (a0_0 == 4)) else (if a0_0 = 5 then (reply_Changes.j0 k a1 a0_0 (a0_0 == 5)) else (if a0_0 = 7 then (reply_Changes.j0 k a1 a0_0 (a0_0 == 7)) else (reply_Changes.j0 k a1 a0_0 (a0_0 == 8)))))) = some r := h
  clear h
  have HC3 := Aside0.mk H
  clear H
  go_enter Try.func32, Try.ntmps32
  go_upto_if 7 with (first | ((with_reducible refine gate_dst (N := 2) rfl ?_); refine box_event ?hg (N := 2) ?hd (cs := #[.int .i64 a0_0, .string a0_1, .bool a0_2, .slice A0_3 l0_3.length c0_3]) (t := 28) ?hr ?_; (case hd => rfl); (case hg => rfl); (case hr => first | (go_simp; done) | (go_simp; rfl)); intro gb289 hg w4 hbox hb; have n0_ := Aside0.mk (below_step (by repeat (first | (with_reducible first | exact HB.out | apply below_alloc | apply pw_below_drewN | apply below_drew1) | exact HB.out)) hb); have n1_ := Aside0.mk (hbox); have n2_ := Aside0.mk ((by rw [hg]; exact (below_size (by repeat (first | (with_reducible first | exact HB.out | apply below_alloc | apply pw_below_drewN | apply below_drew1) | exact HB.out))) : w.heap.size ≤ gb289)); have n3_ := Aside0.mk ((by rw [hg]; exact (below_size (by repeat (first | (with_reducible first | exact HB.out | apply below_alloc | apply pw_below_drewN | apply below_drew1) | exact HB.out))) : w.heap.size ≤ gb289)); clear HB; have HB := n0_; have BK289 := n1_; have GW289 := n2_; have GE289 := n3_; clear n0_ n1_ n2_ n3_; clear hb hbox hg; have hcz5_0 : w4.cell? ⟨gb289, 0, none⟩ = some (.int .i64 a0_0) := (blk_cell BK289.out 0).trans rfl; have hcz5_1 : w4.cell? ⟨gb289, 1, none⟩ = some (.string a0_1) := (blk_cell BK289.out 1).trans rfl; have hcz5_2 : w4.cell? ⟨gb289, 2, none⟩ = some (.bool a0_2) := (blk_cell BK289.out 2).trans rfl; have hcz5_3 : w4.cell? ⟨gb289, 3, none⟩ = some (.slice A0_3 l0_3.length c0_3) := (blk_cell BK289.out 3).trans rfl; have hfz5_0 := blk_frozen BK289.out 0; have hfz5_1 := blk_frozen BK289.out 1; have hfz5_2 := blk_frozen BK289.out 2; have hfz5_3 := blk_frozen BK289.out 3))
  (try simp only [Act.put, List.setIfInBounds_toArray, List.set_cons_zero, List.set_cons_succ])
  go_cut [7] (fun v7 wc => ∃ (kq : Nat) (x7_2 : Bool), v7 = .bool x7_2 ∧ Aside0 (reply_Changes.j0 kq a1 a0_0 x7_2 = some r) ∧ Aside0 (kq ≤ k) ∧ Aside0 (wc.heap[gb289]? = some (.cells #[.int .i64 a0_0, .string a0_1, .bool a0_2, (.slice A0_3 l0_3.length c0_3)] 28 (0, 0))) ∧ Aside0 (Below w.heap.size w wc))
  case first =>
    have H := HC3.out
    clear HC3
    by_cases c6 : a0_0 = 3
    · rw [if_pos c6] at H
      have c6b0 : (a0_0 == 3) = true := beq_iff_eq.mpr c6
      have c6b1 : (a0_0 != 3) = false := bne_eq_false_iff_eq.mpr c6
      clear c6
      (first | rw [c6b0] | (simp only [i64_w, i32_w]; rw [c6b0]) | skip)
      have H' := Aside0.mk H
      clear H
      go_wp2
      go_meet
      case rel => exact ⟨_, ((a0_0 == 3)), (by first | rfl | (simp; done) | (simp [*]; done)), H', ⟨by first | omega | exact Nat.le_refl _⟩, ⟨by (with_reducible repeat (first | refine blk_drewN ?_ _ | refine blk_drew ?_ | refine blk_alloc ?_ _)); exact BK289.out⟩, ⟨by repeat (first | (with_reducible first | exact HB.out | apply below_alloc | apply pw_below_drewN | apply below_drew1 | refine below_set ?_ GE289.out) | exact HB.out)⟩⟩
    · rw [if_neg c6] at H
      have c6b0 : (a0_0 == 3) = false := beq_eq_false_iff_ne.mpr c6
      have c6b1 : (a0_0 != 3) = true := bne_iff_ne.mpr c6
      (first | rw [c6b0] | (simp only [i64_w, i32_w]; rw [c6b0]) | skip)
      by_cases c7 : a0_0 = 4
      · rw [if_pos c7] at H
        have c7b0 : (a0_0 == 4) = true := beq_iff_eq.mpr c7
        have c7b1 : (a0_0 != 4) = false := bne_eq_false_iff_eq.mpr c7
        clear c7
        have H' := Aside0.mk H
        clear H
        go_wp2
        go_meet
        case rel => exact ⟨_, ((a0_0 == 4)), (by first | rfl | (simp; done) | (simp [*]; done)), H', ⟨by first | omega | exact Nat.le_refl _⟩, ⟨by (with_reducible repeat (first | refine blk_drewN ?_ _ | refine blk_drew ?_ | refine blk_alloc ?_ _)); exact BK289.out⟩, ⟨by repeat (first | (with_reducible first | exact HB.out | apply below_alloc | apply pw_below_drewN | apply below_drew1 | refine below_set ?_ GE289.out) | exact HB.out)⟩⟩
      · rw [if_neg c7] at H
        have c7b0 : (a0_0 == 4) = false := beq_eq_false_iff_ne.mpr c7
        have c7b1 : (a0_0 != 4) = true := bne_iff_ne.mpr c7
        by_cases c8 : a0_0 = 5
        · rw [if_pos c8] at H
          have c8b0 : (a0_0 == 5) = true := beq_iff_eq.mpr c8
          have c8b1 : (a0_0 != 5) = false := bne_eq_false_iff_eq.mpr c8
          clear c8
          have H' := Aside0.mk H
          clear H
          go_wp2
          go_meet
          case rel => exact ⟨_, ((a0_0 == 5)), (by first | rfl | (simp; done) | (simp [*]; done)), H', ⟨by first | omega | exact Nat.le_refl _⟩, ⟨by (with_reducible repeat (first | refine blk_drewN ?_ _ | refine blk_drew ?_ | refine blk_alloc ?_ _)); exact BK289.out⟩, ⟨by repeat (first | (with_reducible first | exact HB.out | apply below_alloc | apply pw_below_drewN | apply below_drew1 | refine below_set ?_ GE289.out) | exact HB.out)⟩⟩
        · rw [if_neg c8] at H
          have c8b0 : (a0_0 == 5) = false := beq_eq_false_iff_ne.mpr c8
          have c8b1 : (a0_0 != 5) = true := bne_iff_ne.mpr c8
          by_cases c9 : a0_0 = 7
          · rw [if_pos c9] at H
            have c9b0 : (a0_0 == 7) = true := beq_iff_eq.mpr c9
            have c9b1 : (a0_0 != 7) = false := bne_eq_false_iff_eq.mpr c9
            clear c9
            have H' := Aside0.mk H
            clear H
            go_wp2
            go_meet
            case rel => exact ⟨_, ((a0_0 == 7)), (by first | rfl | (simp; done) | (simp [*]; done)), H', ⟨by first | omega | exact Nat.le_refl _⟩, ⟨by (with_reducible repeat (first | refine blk_drewN ?_ _ | refine blk_drew ?_ | refine blk_alloc ?_ _)); exact BK289.out⟩, ⟨by repeat (first | (with_reducible first | exact HB.out | apply below_alloc | apply pw_below_drewN | apply below_drew1 | refine below_set ?_ GE289.out) | exact HB.out)⟩⟩
          · rw [if_neg c9] at H
            have c9b0 : (a0_0 == 7) = false := beq_eq_false_iff_ne.mpr c9
            have c9b1 : (a0_0 != 7) = true := bne_iff_ne.mpr c9
            have H' := Aside0.mk H
            clear H
            go_wp2
            go_meet
            case rel => exact ⟨_, ((a0_0 == 8)), (by first | rfl | (simp; done) | (simp [*]; done)), H', ⟨by first | omega | exact Nat.le_refl _⟩, ⟨by (with_reducible repeat (first | refine blk_drewN ?_ _ | refine blk_drew ?_ | refine blk_alloc ?_ _)); exact BK289.out⟩, ⟨by repeat (first | (with_reducible first | exact HB.out | apply below_alloc | apply pw_below_drewN | apply below_drew1 | refine below_set ?_ GE289.out) | exact HB.out)⟩⟩
  case rest =>
    clear HC3
    try clear p2
    try clear c3
    try clear c6
    try clear c6b0
    try clear c6b1
    try clear c7
    try clear c7b0
    try clear c7b1
    try clear c8
    try clear c8b0
    try clear c8b1
    try clear c9
    try clear c9b0
    try clear c9b1
    try clear hcz5_0
    try clear hcz5_1
    try clear hcz5_2
    try clear hcz5_3
    try clear hfz5_0
    try clear hfz5_1
    try clear hfz5_2
    try clear hfz5_3
    obtain ⟨kq, x7_2, rfl, HA, HJ2, BK289, HB⟩ := hcut
    cases kq with
    | zero => exact absurd HA.out (by simp [reply_Changes.j0])
    | succ kj2 =>
      have H := HA.out
      clear HA
      simp only [reply_Changes.j0] at H
      by_cases c10 : x7_2 = true
      · subst c10
        have H1 : (some true) = some r := by rw [if_pos rfl] at H; exact H
        clear H
        have H := H1
        clear H1
        obtain rfl := Option.some.inj H
        go_wp2
        go_ret
        exact ⟨by first | rfl | (simp [errW_none, errW_some] <;> rfl) | (simp [*, errW_none, errW_some] <;> rfl), by repeat (first | (with_reducible first | exact HB.out | apply below_alloc | apply pw_below_drewN | apply below_drew1 | refine below_set ?_ GE289.out) | exact HB.out)⟩
      · replace c10 := Bool.eq_false_iff.mpr c10
        subst c10
        have H1 : (if a0_0 = 6 then (some (!a1)) else (some false)) = some r := by rw [if_neg (show ¬ (false = true) by decide)] at H; exact H
        clear H
        have H := H1
        clear H1
        by_cases c11 : a0_0 = 6
        · rw [if_pos c11] at H
          have c11b0 : (a0_0 == 6) = true := beq_iff_eq.mpr c11
          have c11b1 : (a0_0 != 6) = false := bne_eq_false_iff_eq.mpr c11
          clear c11
          obtain rfl := Option.some.inj H
          go_wp2
          go_ret
          exact ⟨by first | rfl | (simp [errW_none, errW_some] <;> rfl) | (simp [*, errW_none, errW_some] <;> rfl), by repeat (first | (with_reducible first | exact HB.out | apply below_alloc | apply pw_below_drewN | apply below_drew1 | refine below_set ?_ GE289.out) | exact HB.out)⟩
        · rw [if_neg c11] at H
          have c11b0 : (a0_0 == 6) = false := beq_eq_false_iff_ne.mpr c11
          have c11b1 : (a0_0 != 6) = true := bne_iff_ne.mpr c11
          obtain rfl := Option.some.inj H
          go_wp2
          go_ret
          exact ⟨by first | rfl | (simp [errW_none, errW_some] <;> rfl) | (simp [*, errW_none, errW_some] <;> rfl), by repeat (first | (with_reducible first | exact HB.out | apply below_alloc | apply pw_below_drewN | apply below_drew1 | refine below_set ?_ GE289.out) | exact HB.out)⟩

end Go.Proofs.Ytdkjlbbbdjkhbaa.PAll
