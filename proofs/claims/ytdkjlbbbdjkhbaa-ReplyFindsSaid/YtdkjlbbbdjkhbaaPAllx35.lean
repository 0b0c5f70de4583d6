-- Written by a program of this session (wip/tools/drive.py over the kit's printer): functions, contracts and rows (All).
import Derived.Test.YtdkjlbbbdjkhbaaPAllx0
namespace Go.Proofs.Ytdkjlbbbdjkhbaa.PAll
open Go.RowKit Go.Proofs.YtdkjlbbbdjkhbaaW.PrintWords Go.Proofs.YtdkjlbbbdjkhbaaW.PrintLast Go.Proofs.YtdkjlbbbdjkhbaaW.PrintMore
attribute [local go_sem] max2_int min2_int max_two min_two max_three min_three max_four min_four   -- for this text's walks alone
open Go.Proofs.Ytdkjlbbbdjkhbaa.Hand
set_option linter.unusedVariables false
set_option linter.unusedSimpArgs false

/-! ### reply_Addresses: function 34 -/
def reply_Addresses.l0 : Nat → List ByteArray → List (S43) → Int → Int → Option (List ByteArray)
  | 0, _, _, _, _ => none
  | k + 1, x3, x6, x7, x8 => if x8 < x7 then (if 0 ≤ x8 then (if x8 < (x6.length : Int) then (if ((rd_T43 x6 x8).f1) = 1 then (if (((rd_T43 x6 x8).f3).size : Int) = 4 then (if x3.length < 8796093022208 then (reply_Addresses.l0 k (x3 ++ [(rd_T43 x6 x8).f3]) x6 x7 (wrap64 (x8 + 1))) else (none)) else (if ((rd_T43 x6 x8).f1) = 28 then (if (((rd_T43 x6 x8).f3).size : Int) = 16 then (if x3.length < 8796093022208 then (reply_Addresses.l0 k (x3 ++ [(rd_T43 x6 x8).f3]) x6 x7 (wrap64 (x8 + 1))) else (none)) else (reply_Addresses.l0 k x3 x6 x7 (wrap64 (x8 + 1)))) else (reply_Addresses.l0 k x3 x6 x7 (wrap64 (x8 + 1))))) else (if ((rd_T43 x6 x8).f1) = 28 then (if (((rd_T43 x6 x8).f3).size : Int) = 16 then (if x3.length < 8796093022208 then (reply_Addresses.l0 k (x3 ++ [(rd_T43 x6 x8).f3]) x6 x7 (wrap64 (x8 + 1))) else (none)) else (reply_Addresses.l0 k x3 x6 x7 (wrap64 (x8 + 1)))) else (reply_Addresses.l0 k x3 x6 x7 (wrap64 (x8 + 1))))) else (none)) else (none)) else (some x3)
def reply_Addresses.f (k : Nat) (l0 : List (S43)) : Option (List ByteArray) := reply_Addresses.l0 k ([] : List ByteArray) l0 (l0.length : Int) 0
theorem reply_Addresses.mono_l : ∀ k, (∀ y0 y1 y2 y3, LeO (reply_Addresses.l0 k y0 y1 y2 y3) (reply_Addresses.l0 (k + 1) y0 y1 y2 y3))
  | 0 => fun _ _ _ _ r h => by simp [reply_Addresses.l0] at h
  | k + 1 => by
    have ih0 := reply_Addresses.mono_l k
    · intro y0 y1 y2 y3
      unfold reply_Addresses.l0
      repeat' first
      | (with_reducible exact ih0 _ _ _ _)
      | (with_reducible exact LeO.refl _)
      | (with_reducible exact LeO.none _)
      | (with_reducible refine LeO.ite ?_ ?_)
      | (with_reducible refine LeO.bind ?_ (fun _ => ?_))
      | exact ih0 _ _ _ _
      | exact LeO.none _
      | refine LeO.ite ?_ ?_
      | refine LeO.bind ?_ (fun _ => ?_)
theorem reply_Addresses.mono : ∀ a0 k, LeO (reply_Addresses.f k a0) (reply_Addresses.f (k + 1) a0) := by
  intro a0 k
  have ih0 := reply_Addresses.mono_l k
  unfold reply_Addresses.f
  repeat' first
      | (with_reducible exact ih0 _ _ _ _)
      | (with_reducible exact LeO.refl _)
      | (with_reducible exact LeO.none _)
      | (with_reducible refine LeO.ite ?_ ?_)
      | (with_reducible refine LeO.bind ?_ (fun _ => ?_))
      | exact ih0 _ _ _ _
      | exact LeO.none _
      | refine LeO.ite ?_ ?_
      | refine LeO.bind ?_ (fun _ => ?_)
set_option maxHeartbeats 8000000 in
set_option maxRecDepth 100000 in
theorem reply_Addresses.calls (k : Nat) (A0 : Option Addr) (c0 : Nat) (l0 : List (S43)) (r : List ByteArray) (w : World) (hr0 : Kd.C k43 w A0 l0.length l0) (hc0 : l0.length ≤ c0) (h : reply_Addresses.f k l0 = some r) :
    Calls Try.prog 34 #[.slice A0 l0.length c0] w fun e w' => ∃ v0_ : Value, e = .returned (v0_) ∧ Kd.R Kd.string 9 w' w.heap.size (fun _ => True) v0_ r ∧ Below w.heap.size w w' := by
  have hu43 := Try.underlying43
  have HR0 := Aside0.mk hr0
  have HC0 := Aside0.mk hc0
  clear hr0 hc0
  have HB := Aside0.mk (Below.refl w.heap.size w)
  have H : (reply_Addresses.l0 k ([] : List ByteArray) l0 (l0.length : Int) 0) = some r := h
  clear h
  have H' := Aside0.mk H
  clear H
  go_enter Try.func34, Try.ntmps34
  go_wp2
  go_loopg [3, 8] k (fun kq v3 v8 w' => ∃ (x3_1 : List ByteArray) (x8_1 : Int), v8 = .int .i64 x8_1 ∧ Aside0 (reply_Addresses.l0 kq x3_1 l0 (l0.length : Int) x8_1 = some r) ∧ Aside0 (kq ≤ k) ∧ Aside0 (Kd.R Kd.string 9 w' w.heap.size (fun _ => True) v3 x3_1) ∧ Aside0 (Below w.heap.size w w'))
  case atStart => exact ⟨(([] : List ByteArray)), (0), (by first | rfl | (simp; done) | (simp [*]; done)), H', ⟨Nat.le_refl _⟩, ⟨by first | exact Kd.R_nil _ _ _ _ _ | exact Kd.N_nil _ _ _ _ _ | exact Kd.V_nil _ _ _ _ _ | exact Kd.Q_nil _ _ _ _ _ | exact Kd.S_nil _ _ _ _ _⟩, ⟨by repeat (first | (with_reducible first | exact HB.out | apply below_alloc | apply pw_below_drewN | apply below_drew1) | exact HB.out)⟩⟩
  case round =>
    clear H'
    obtain ⟨x3_1, x8_1, rfl, HA, HK1, HO_3, HB⟩ := hrel
    cases gk with
    | zero => exact absurd HA.out (by simp [reply_Addresses.l0])
    | succ k1 =>
      have H := HA.out
      clear HA
      simp only [reply_Addresses.l0] at H
      by_cases c2 : x8_1 < (l0.length : Int)
      · rw [if_pos c2] at H
        have c2b0 : decide (x8_1 < (l0.length : Int)) = true := decide_eq_true c2
        clear c2
        by_cases c3 : 0 ≤ x8_1
        · rw [if_pos c3] at H
          have c3b0 : decide (0 ≤ x8_1) = true := decide_eq_true c3
          clear c3
          by_cases c4 : x8_1 < (l0.length : Int)
          · rw [if_pos c4] at H
            have c4b0 : decide (x8_1 < (l0.length : Int)) = true := decide_eq_true c4
            clear c4
            by_cases c5 : ((rd_T43 l0 x8_1).f1) = 1
            · rw [if_pos c5] at H
              have c5b0 : (((rd_T43 l0 x8_1).f1) == 1) = true := beq_iff_eq.mpr c5
              have c5b1 : (((rd_T43 l0 x8_1).f1) != 1) = false := bne_eq_false_iff_eq.mpr c5
              clear c5
              by_cases c6 : (((rd_T43 l0 x8_1).f3).size : Int) = 4
              · rw [if_pos c6] at H
                have c6b0 : ((((rd_T43 l0 x8_1).f3).size : Int) == 4) = true := beq_iff_eq.mpr c6
                have c6b1 : ((((rd_T43 l0 x8_1).f3).size : Int) != 4) = false := bne_eq_false_iff_eq.mpr c6
                clear c6
                by_cases c7 : x3_1.length < 8796093022208
                · rw [if_pos c7] at H
                  have LMc7 := Aside0.mk c7
                  clear c7
                  obtain ⟨y457, hy457⟩ : ∃ y_ : List ByteArray, y_ = (x3_1 ++ [(rd_T43 l0 x8_1).f3]) := ⟨_, rfl⟩
                  replace H : (reply_Addresses.l0 k1 y457 l0 (l0.length : Int) (wrap64 (x8_1 + 1))) = some r := by first | (rw [hy457]; with_reducible exact H) | (have H2_ := (Option.bind_some _ _).symm.trans H; rw [hy457]; with_reducible exact H2_) | (have H2_ := (Option.bind_some _ _).symm.trans H; with_reducible exact H2_) | with_reducible exact H | (rw [hy457]; exact H) | exact H
                  have Ny457 := Aside0.mk hy457
                  clear hy457
                  have H' := Aside0.mk H
                  clear H
                  have p455 : 0 ≤ (x8_1 : Int) := of_decide_eq_true (by first | (with_reducible assumption) | assumption)
                  have q455 : x8_1 < (l0.length : Int) := of_decide_eq_true (by first | (with_reducible assumption) | assumption)
                  obtain ⟨ad455, e455, hx455_0, hx455_1, hx455_2, hx455_3⟩ := at_T43 HR0.out x8_1 p455 q455
                  cases e455
                  replace hx455_0 := (HB.out.cell (World.block_lt_of_cell? w _ hx455_0)).trans hx455_0
                  replace hx455_1 := (HB.out.cell (World.block_lt_of_cell? w _ hx455_1)).trans hx455_1
                  replace hx455_2 := (HB.out.cell (World.block_lt_of_cell? w _ hx455_2)).trans hx455_2
                  replace hx455_3 := (HB.out.cell (World.block_lt_of_cell? w _ hx455_3)).trans hx455_3
                  replace p455 := eq_true p455
                  replace q455 := eq_true q455
                  go_wp2_with (first | ((with_reducible refine gate_dst (N := 5) rfl ?_); (try (refine gate_guard (by rfl) ?_; dsimp only)); refine box_event ?hg (N := 5) ?hd (cs := #[.string (⟨#[]⟩ : ByteArray), .int .u16 0, .int .u32 0, .string (⟨#[]⟩ : ByteArray)]) (t := 43) ?hr ?_; (case hd => rfl); (case hg => rfl); (case hr => first | (go_simp; done) | (go_simp; rfl)); intro gb456 hg w8 hbox hb; have n0_ := Aside0.mk (Kd.R_below (by (with_reducible repeat (first | apply Kd.R_alloc | apply Kd.R_drewN | apply Kd.R_drew)); exact HO_3.out) hb); have n1_ := Aside0.mk (below_step (by repeat (first | (with_reducible first | exact HB.out | apply below_alloc | apply pw_below_drewN | apply below_drew1) | exact HB.out)) hb); have n2_ := Aside0.mk (hbox); have n3_ := Aside0.mk ((by rw [hg]; exact (below_size (by repeat (first | (with_reducible first | exact HB.out | apply below_alloc | apply pw_below_drewN | apply below_drew1) | exact HB.out))) : w.heap.size ≤ gb456)); have n4_ := Aside0.mk ((by rw [hg]; exact (below_size (by repeat (first | (with_reducible first | exact HB.out | apply below_alloc | apply pw_below_drewN | apply below_drew1) | exact HB.out))) : w.heap.size ≤ gb456)); clear HO_3; clear HB; have HO_3 := n0_; have HB := n1_; have BK456 := n2_; have GW456 := n3_; have GE456 := n4_; clear n0_ n1_ n2_ n3_ n4_; clear hb hbox hg; have hcz9_0 : w8.cell? ⟨gb456, 0, none⟩ = some (.string (⟨#[]⟩ : ByteArray)) := (blk_cell BK456.out 0).trans rfl; have hcz9_1 : w8.cell? ⟨gb456, 1, none⟩ = some (.int .u16 0) := (blk_cell BK456.out 1).trans rfl; have hcz9_2 : w8.cell? ⟨gb456, 2, none⟩ = some (.int .u32 0) := (blk_cell BK456.out 2).trans rfl; have hcz9_3 : w8.cell? ⟨gb456, 3, none⟩ = some (.string (⟨#[]⟩ : ByteArray)) := (blk_cell BK456.out 3).trans rfl; have hfz9_0 := blk_frozen BK456.out 0; have hfz9_1 := blk_frozen BK456.out 1; have hfz9_2 := blk_frozen BK456.out 2; have hfz9_3 := blk_frozen BK456.out 3) | ((with_reducible refine gate_builtin (b := .append) (xs := #[.tmp 32, .tmp 35]) rfl ?_); (try (refine gate_guard (by rfl) ?_; dsimp only)); at_builtin; refine Kd.R_append Kd.string (w0 := w) w.heap.size rfl (.tmp 32) (.tmp 35) 74 9 (.string ⟨#[]⟩) 16 rfl Try.underlying74 info9 rfl (by decide) (by omega) u3 x3_1 ((rd_T43 l0 x8_1).f3) [.string ((rd_T43 l0 x8_1).f3)] (fun _ => True) (fun _ => False) rfl (by first | (go_simp; done) | (go_simp; rfl)) ?aP (fun _ hk => hk.elim) ?aF ?aO ?aB ?aS ?aL ?_; (case aP => exact rfl); (case aB => exact (by repeat (first | (with_reducible first | exact HB.out | apply below_alloc | apply pw_below_drewN | apply below_drew1 | refine below_set ?_ GE456.out) | exact HB.out))); (case aF => exact (fun _ _ => trivial)); (case aO => exact (by (with_reducible repeat (first | apply Kd.R_alloc | apply Kd.R_drewN | apply Kd.R_drew)); exact Kd.R_mono (Kd.R_far (p := ⟨gb456, 3, none⟩) (Kd.R_far (p := ⟨gb456, 2, none⟩) (Kd.R_far (p := ⟨gb456, 1, none⟩) (Kd.R_far (p := ⟨gb456, 0, none⟩) (Kd.R_types HO_3.out BK456.out (by decide)) (fun _ hk => hk.2) (.string ((rd_T43 l0 x8_1).f0))) (fun _ hk => hk.2) (.int .u16 ((rd_T43 l0 x8_1).f1))) (fun _ hk => hk.2) (.int .u32 ((rd_T43 l0 x8_1).f2))) (fun _ hk => hk.2) (.string ((rd_T43 l0 x8_1).f3))) (fun _ hk => trivial))); (case aS => exact (below_size (by repeat (first | (with_reducible first | exact HB.out | apply below_alloc | apply pw_below_drewN | apply below_drew1 | refine below_set ?_ GE456.out) | exact HB.out)))); (case aL => have := LMc7.out; omega); intro v458 w10 ho hb hg hat; rw [← Ny457.out] at ho; have n0_ := Aside0.mk (blk_grown (g := gb456) (o := .cells #[.string ((rd_T43 l0 x8_1).f0), .int .u16 ((rd_T43 l0 x8_1).f1), .int .u32 ((rd_T43 l0 x8_1).f2), .string ((rd_T43 l0 x8_1).f3)] 43 (0, 0)) (by (with_reducible repeat (first | refine blk_drewN ?_ _ | refine blk_drew ?_ | refine blk_alloc ?_ _)); refine blk_put (cs := #[.string ((rd_T43 l0 x8_1).f0), .int .u16 ((rd_T43 l0 x8_1).f1), .int .u32 ((rd_T43 l0 x8_1).f2), .string (⟨#[]⟩ : ByteArray)]) ?_ 3 _ rfl; (with_reducible repeat (first | refine blk_drewN ?_ _ | refine blk_drew ?_ | refine blk_alloc ?_ _)); refine blk_put (cs := #[.string ((rd_T43 l0 x8_1).f0), .int .u16 ((rd_T43 l0 x8_1).f1), .int .u32 0, .string (⟨#[]⟩ : ByteArray)]) ?_ 2 _ rfl; (with_reducible repeat (first | refine blk_drewN ?_ _ | refine blk_drew ?_ | refine blk_alloc ?_ _)); refine blk_put (cs := #[.string ((rd_T43 l0 x8_1).f0), .int .u16 0, .int .u32 0, .string (⟨#[]⟩ : ByteArray)]) ?_ 1 _ rfl; (with_reducible repeat (first | refine blk_drewN ?_ _ | refine blk_drew ?_ | refine blk_alloc ?_ _)); refine blk_put (cs := #[.string (⟨#[]⟩ : ByteArray), .int .u16 0, .int .u32 0, .string (⟨#[]⟩ : ByteArray)]) ?_ 0 _ rfl; (with_reducible repeat (first | refine blk_drewN ?_ _ | refine blk_drew ?_ | refine blk_alloc ?_ _)); exact BK456.out) hg (Kd.R_ne HO_3.out BK456.out (by decide))); have n1_ := Aside0.mk (hb); have n2_ := Aside0.mk (ho); clear BK456; clear HB; clear HO_3; have BK456 := n0_; have HB := n1_; have HO459 := n2_; clear n0_ n1_ n2_; clear ho hb hg hat))
                  go_roundg k1
                  case measure => have := HK1.out; omega
                  case rel => exact ⟨(y457), (wrap64 (x8_1 + 1)), (by first | rfl | (simp; done) | (simp [*]; done)), H', ⟨by have := HK1.out; omega⟩, ⟨by (with_reducible repeat (first | apply Kd.R_alloc | apply Kd.R_drewN | apply Kd.R_drew)); exact HO459.out⟩, ⟨by repeat (first | (with_reducible first | exact HB.out | apply below_alloc | apply pw_below_drewN | apply below_drew1 | refine below_set ?_ GE456.out) | exact HB.out)⟩⟩
                · rw [if_neg c7] at H
                  exact absurd H (by simp)
              · rw [if_neg c6] at H
                have c6b0 : ((((rd_T43 l0 x8_1).f3).size : Int) == 4) = false := beq_eq_false_iff_ne.mpr c6
                have c6b1 : ((((rd_T43 l0 x8_1).f3).size : Int) != 4) = true := bne_iff_ne.mpr c6
                by_cases c11 : ((rd_T43 l0 x8_1).f1) = 28
                · rw [if_pos c11] at H
                  have c11b0 : (((rd_T43 l0 x8_1).f1) == 28) = true := beq_iff_eq.mpr c11
                  have c11b1 : (((rd_T43 l0 x8_1).f1) != 28) = false := bne_eq_false_iff_eq.mpr c11
                  clear c11
                  by_cases c12 : (((rd_T43 l0 x8_1).f3).size : Int) = 16
                  · rw [if_pos c12] at H
                    have c12b0 : ((((rd_T43 l0 x8_1).f3).size : Int) == 16) = true := beq_iff_eq.mpr c12
                    have c12b1 : ((((rd_T43 l0 x8_1).f3).size : Int) != 16) = false := bne_eq_false_iff_eq.mpr c12
                    clear c12
                    by_cases c13 : x3_1.length < 8796093022208
                    · rw [if_pos c13] at H
                      have LMc13 := Aside0.mk c13
                      clear c13
                      obtain ⟨y460, hy460⟩ : ∃ y_ : List ByteArray, y_ = (x3_1 ++ [(rd_T43 l0 x8_1).f3]) := ⟨_, rfl⟩
                      replace H : (reply_Addresses.l0 k1 y460 l0 (l0.length : Int) (wrap64 (x8_1 + 1))) = some r := by first | (rw [hy460]; with_reducible exact H) | (have H2_ := (Option.bind_some _ _).symm.trans H; rw [hy460]; with_reducible exact H2_) | (have H2_ := (Option.bind_some _ _).symm.trans H; with_reducible exact H2_) | with_reducible exact H | (rw [hy460]; exact H) | exact H
                      have Ny460 := Aside0.mk hy460
                      clear hy460
                      have H' := Aside0.mk H
                      clear H
                      have p455 : 0 ≤ (x8_1 : Int) := of_decide_eq_true (by first | (with_reducible assumption) | assumption)
                      have q455 : x8_1 < (l0.length : Int) := of_decide_eq_true (by first | (with_reducible assumption) | assumption)
                      obtain ⟨ad455, e455, hx455_0, hx455_1, hx455_2, hx455_3⟩ := at_T43 HR0.out x8_1 p455 q455
                      cases e455
                      replace hx455_0 := (HB.out.cell (World.block_lt_of_cell? w _ hx455_0)).trans hx455_0
                      replace hx455_1 := (HB.out.cell (World.block_lt_of_cell? w _ hx455_1)).trans hx455_1
                      replace hx455_2 := (HB.out.cell (World.block_lt_of_cell? w _ hx455_2)).trans hx455_2
                      replace hx455_3 := (HB.out.cell (World.block_lt_of_cell? w _ hx455_3)).trans hx455_3
                      replace p455 := eq_true p455
                      replace q455 := eq_true q455
                      go_wp2_with (first | ((with_reducible refine gate_dst (N := 5) rfl ?_); (try (refine gate_guard (by rfl) ?_; dsimp only)); refine box_event ?hg (N := 5) ?hd (cs := #[.string (⟨#[]⟩ : ByteArray), .int .u16 0, .int .u32 0, .string (⟨#[]⟩ : ByteArray)]) (t := 43) ?hr ?_; (case hd => rfl); (case hg => rfl); (case hr => first | (go_simp; done) | (go_simp; rfl)); intro gb456 hg w14 hbox hb; have n0_ := Aside0.mk (Kd.R_below (by (with_reducible repeat (first | apply Kd.R_alloc | apply Kd.R_drewN | apply Kd.R_drew)); exact HO_3.out) hb); have n1_ := Aside0.mk (below_step (by repeat (first | (with_reducible first | exact HB.out | apply below_alloc | apply pw_below_drewN | apply below_drew1) | exact HB.out)) hb); have n2_ := Aside0.mk (hbox); have n3_ := Aside0.mk ((by rw [hg]; exact (below_size (by repeat (first | (with_reducible first | exact HB.out | apply below_alloc | apply pw_below_drewN | apply below_drew1) | exact HB.out))) : w.heap.size ≤ gb456)); have n4_ := Aside0.mk ((by rw [hg]; exact (below_size (by repeat (first | (with_reducible first | exact HB.out | apply below_alloc | apply pw_below_drewN | apply below_drew1) | exact HB.out))) : w.heap.size ≤ gb456)); clear HO_3; clear HB; have HO_3 := n0_; have HB := n1_; have BK456 := n2_; have GW456 := n3_; have GE456 := n4_; clear n0_ n1_ n2_ n3_ n4_; clear hb hbox hg; have hcz15_0 : w14.cell? ⟨gb456, 0, none⟩ = some (.string (⟨#[]⟩ : ByteArray)) := (blk_cell BK456.out 0).trans rfl; have hcz15_1 : w14.cell? ⟨gb456, 1, none⟩ = some (.int .u16 0) := (blk_cell BK456.out 1).trans rfl; have hcz15_2 : w14.cell? ⟨gb456, 2, none⟩ = some (.int .u32 0) := (blk_cell BK456.out 2).trans rfl; have hcz15_3 : w14.cell? ⟨gb456, 3, none⟩ = some (.string (⟨#[]⟩ : ByteArray)) := (blk_cell BK456.out 3).trans rfl; have hfz15_0 := blk_frozen BK456.out 0; have hfz15_1 := blk_frozen BK456.out 1; have hfz15_2 := blk_frozen BK456.out 2; have hfz15_3 := blk_frozen BK456.out 3) | ((with_reducible refine gate_builtin (b := .append) (xs := #[.tmp 32, .tmp 35]) rfl ?_); (try (refine gate_guard (by rfl) ?_; dsimp only)); at_builtin; refine Kd.R_append Kd.string (w0 := w) w.heap.size rfl (.tmp 32) (.tmp 35) 74 9 (.string ⟨#[]⟩) 16 rfl Try.underlying74 info9 rfl (by decide) (by omega) u3 x3_1 ((rd_T43 l0 x8_1).f3) [.string ((rd_T43 l0 x8_1).f3)] (fun _ => True) (fun _ => False) rfl (by first | (go_simp; done) | (go_simp; rfl)) ?aP (fun _ hk => hk.elim) ?aF ?aO ?aB ?aS ?aL ?_; (case aP => exact rfl); (case aB => exact (by repeat (first | (with_reducible first | exact HB.out | apply below_alloc | apply pw_below_drewN | apply below_drew1 | refine below_set ?_ GE456.out) | exact HB.out))); (case aF => exact (fun _ _ => trivial)); (case aO => exact (by (with_reducible repeat (first | apply Kd.R_alloc | apply Kd.R_drewN | apply Kd.R_drew)); exact Kd.R_mono (Kd.R_far (p := ⟨gb456, 3, none⟩) (Kd.R_far (p := ⟨gb456, 2, none⟩) (Kd.R_far (p := ⟨gb456, 1, none⟩) (Kd.R_far (p := ⟨gb456, 0, none⟩) (Kd.R_types HO_3.out BK456.out (by decide)) (fun _ hk => hk.2) (.string ((rd_T43 l0 x8_1).f0))) (fun _ hk => hk.2) (.int .u16 ((rd_T43 l0 x8_1).f1))) (fun _ hk => hk.2) (.int .u32 ((rd_T43 l0 x8_1).f2))) (fun _ hk => hk.2) (.string ((rd_T43 l0 x8_1).f3))) (fun _ hk => trivial))); (case aS => exact (below_size (by repeat (first | (with_reducible first | exact HB.out | apply below_alloc | apply pw_below_drewN | apply below_drew1 | refine below_set ?_ GE456.out) | exact HB.out)))); (case aL => have := LMc13.out; omega); intro v461 w16 ho hb hg hat; rw [← Ny460.out] at ho; have n0_ := Aside0.mk (blk_grown (g := gb456) (o := .cells #[.string ((rd_T43 l0 x8_1).f0), .int .u16 ((rd_T43 l0 x8_1).f1), .int .u32 ((rd_T43 l0 x8_1).f2), .string ((rd_T43 l0 x8_1).f3)] 43 (0, 0)) (by (with_reducible repeat (first | refine blk_drewN ?_ _ | refine blk_drew ?_ | refine blk_alloc ?_ _)); refine blk_put (cs := #[.string ((rd_T43 l0 x8_1).f0), .int .u16 ((rd_T43 l0 x8_1).f1), .int .u32 ((rd_T43 l0 x8_1).f2), .string (⟨#[]⟩ : ByteArray)]) ?_ 3 _ rfl; (with_reducible repeat (first | refine blk_drewN ?_ _ | refine blk_drew ?_ | refine blk_alloc ?_ _)); refine blk_put (cs := #[.string ((rd_T43 l0 x8_1).f0), .int .u16 ((rd_T43 l0 x8_1).f1), .int .u32 0, .string (⟨#[]⟩ : ByteArray)]) ?_ 2 _ rfl; (with_reducible repeat (first | refine blk_drewN ?_ _ | refine blk_drew ?_ | refine blk_alloc ?_ _)); refine blk_put (cs := #[.string ((rd_T43 l0 x8_1).f0), .int .u16 0, .int .u32 0, .string (⟨#[]⟩ : ByteArray)]) ?_ 1 _ rfl; (with_reducible repeat (first | refine blk_drewN ?_ _ | refine blk_drew ?_ | refine blk_alloc ?_ _)); refine blk_put (cs := #[.string (⟨#[]⟩ : ByteArray), .int .u16 0, .int .u32 0, .string (⟨#[]⟩ : ByteArray)]) ?_ 0 _ rfl; (with_reducible repeat (first | refine blk_drewN ?_ _ | refine blk_drew ?_ | refine blk_alloc ?_ _)); exact BK456.out) hg (Kd.R_ne HO_3.out BK456.out (by decide))); have n1_ := Aside0.mk (hb); have n2_ := Aside0.mk (ho); clear BK456; clear HB; clear HO_3; have BK456 := n0_; have HB := n1_; have HO462 := n2_; clear n0_ n1_ n2_; clear ho hb hg hat))
                      go_roundg k1
                      case measure => have := HK1.out; omega
                      case rel => exact ⟨(y460), (wrap64 (x8_1 + 1)), (by first | rfl | (simp; done) | (simp [*]; done)), H', ⟨by have := HK1.out; omega⟩, ⟨by (with_reducible repeat (first | apply Kd.R_alloc | apply Kd.R_drewN | apply Kd.R_drew)); exact HO462.out⟩, ⟨by repeat (first | (with_reducible first | exact HB.out | apply below_alloc | apply pw_below_drewN | apply below_drew1 | refine below_set ?_ GE456.out) | exact HB.out)⟩⟩
                    · rw [if_neg c13] at H
                      exact absurd H (by simp)
                  · rw [if_neg c12] at H
                    have c12b0 : ((((rd_T43 l0 x8_1).f3).size : Int) == 16) = false := beq_eq_false_iff_ne.mpr c12
                    have c12b1 : ((((rd_T43 l0 x8_1).f3).size : Int) != 16) = true := bne_iff_ne.mpr c12
                    have H' := Aside0.mk H
                    clear H
                    have p455 : 0 ≤ (x8_1 : Int) := of_decide_eq_true (by first | (with_reducible assumption) | assumption)
                    have q455 : x8_1 < (l0.length : Int) := of_decide_eq_true (by first | (with_reducible assumption) | assumption)
                    obtain ⟨ad455, e455, hx455_0, hx455_1, hx455_2, hx455_3⟩ := at_T43 HR0.out x8_1 p455 q455
                    cases e455
                    replace hx455_0 := (HB.out.cell (World.block_lt_of_cell? w _ hx455_0)).trans hx455_0
                    replace hx455_1 := (HB.out.cell (World.block_lt_of_cell? w _ hx455_1)).trans hx455_1
                    replace hx455_2 := (HB.out.cell (World.block_lt_of_cell? w _ hx455_2)).trans hx455_2
                    replace hx455_3 := (HB.out.cell (World.block_lt_of_cell? w _ hx455_3)).trans hx455_3
                    replace p455 := eq_true p455
                    replace q455 := eq_true q455
                    go_wp2_with (first | ((with_reducible refine gate_dst (N := 5) rfl ?_); (try (refine gate_guard (by rfl) ?_; dsimp only)); refine box_event ?hg (N := 5) ?hd (cs := #[.string (⟨#[]⟩ : ByteArray), .int .u16 0, .int .u32 0, .string (⟨#[]⟩ : ByteArray)]) (t := 43) ?hr ?_; (case hd => rfl); (case hg => rfl); (case hr => first | (go_simp; done) | (go_simp; rfl)); intro gb456 hg w17 hbox hb; have n0_ := Aside0.mk (Kd.R_below (by (with_reducible repeat (first | apply Kd.R_alloc | apply Kd.R_drewN | apply Kd.R_drew)); exact HO_3.out) hb); have n1_ := Aside0.mk (below_step (by repeat (first | (with_reducible first | exact HB.out | apply below_alloc | apply pw_below_drewN | apply below_drew1) | exact HB.out)) hb); have n2_ := Aside0.mk (hbox); have n3_ := Aside0.mk ((by rw [hg]; exact (below_size (by repeat (first | (with_reducible first | exact HB.out | apply below_alloc | apply pw_below_drewN | apply below_drew1) | exact HB.out))) : w.heap.size ≤ gb456)); have n4_ := Aside0.mk ((by rw [hg]; exact (below_size (by repeat (first | (with_reducible first | exact HB.out | apply below_alloc | apply pw_below_drewN | apply below_drew1) | exact HB.out))) : w.heap.size ≤ gb456)); clear HO_3; clear HB; have HO_3 := n0_; have HB := n1_; have BK456 := n2_; have GW456 := n3_; have GE456 := n4_; clear n0_ n1_ n2_ n3_ n4_; clear hb hbox hg; have hcz18_0 : w17.cell? ⟨gb456, 0, none⟩ = some (.string (⟨#[]⟩ : ByteArray)) := (blk_cell BK456.out 0).trans rfl; have hcz18_1 : w17.cell? ⟨gb456, 1, none⟩ = some (.int .u16 0) := (blk_cell BK456.out 1).trans rfl; have hcz18_2 : w17.cell? ⟨gb456, 2, none⟩ = some (.int .u32 0) := (blk_cell BK456.out 2).trans rfl; have hcz18_3 : w17.cell? ⟨gb456, 3, none⟩ = some (.string (⟨#[]⟩ : ByteArray)) := (blk_cell BK456.out 3).trans rfl; have hfz18_0 := blk_frozen BK456.out 0; have hfz18_1 := blk_frozen BK456.out 1; have hfz18_2 := blk_frozen BK456.out 2; have hfz18_3 := blk_frozen BK456.out 3))
                    go_roundg k1
                    case measure => have := HK1.out; omega
                    case rel => exact ⟨(x3_1), (wrap64 (x8_1 + 1)), (by first | rfl | (simp; done) | (simp [*]; done)), H', ⟨by have := HK1.out; omega⟩, ⟨by (with_reducible repeat (first | apply Kd.R_alloc | apply Kd.R_drewN | apply Kd.R_drew)); exact Kd.R_mono (Kd.R_far (p := ⟨gb456, 3, none⟩) (Kd.R_far (p := ⟨gb456, 2, none⟩) (Kd.R_far (p := ⟨gb456, 1, none⟩) (Kd.R_far (p := ⟨gb456, 0, none⟩) (Kd.R_types HO_3.out BK456.out (by decide)) (fun _ hk => hk.2) (.string ((rd_T43 l0 x8_1).f0))) (fun _ hk => hk.2) (.int .u16 ((rd_T43 l0 x8_1).f1))) (fun _ hk => hk.2) (.int .u32 ((rd_T43 l0 x8_1).f2))) (fun _ hk => hk.2) (.string ((rd_T43 l0 x8_1).f3))) (fun _ hk => trivial)⟩, ⟨by repeat (first | (with_reducible first | exact HB.out | apply below_alloc | apply pw_below_drewN | apply below_drew1 | refine below_set ?_ GE456.out) | exact HB.out)⟩⟩
                · rw [if_neg c11] at H
                  have c11b0 : (((rd_T43 l0 x8_1).f1) == 28) = false := beq_eq_false_iff_ne.mpr c11
                  have c11b1 : (((rd_T43 l0 x8_1).f1) != 28) = true := bne_iff_ne.mpr c11
                  have H' := Aside0.mk H
                  clear H
                  have p455 : 0 ≤ (x8_1 : Int) := of_decide_eq_true (by first | (with_reducible assumption) | assumption)
                  have q455 : x8_1 < (l0.length : Int) := of_decide_eq_true (by first | (with_reducible assumption) | assumption)
                  obtain ⟨ad455, e455, hx455_0, hx455_1, hx455_2, hx455_3⟩ := at_T43 HR0.out x8_1 p455 q455
                  cases e455
                  replace hx455_0 := (HB.out.cell (World.block_lt_of_cell? w _ hx455_0)).trans hx455_0
                  replace hx455_1 := (HB.out.cell (World.block_lt_of_cell? w _ hx455_1)).trans hx455_1
                  replace hx455_2 := (HB.out.cell (World.block_lt_of_cell? w _ hx455_2)).trans hx455_2
                  replace hx455_3 := (HB.out.cell (World.block_lt_of_cell? w _ hx455_3)).trans hx455_3
                  replace p455 := eq_true p455
                  replace q455 := eq_true q455
                  go_wp2_with (first | ((with_reducible refine gate_dst (N := 5) rfl ?_); (try (refine gate_guard (by rfl) ?_; dsimp only)); refine box_event ?hg (N := 5) ?hd (cs := #[.string (⟨#[]⟩ : ByteArray), .int .u16 0, .int .u32 0, .string (⟨#[]⟩ : ByteArray)]) (t := 43) ?hr ?_; (case hd => rfl); (case hg => rfl); (case hr => first | (go_simp; done) | (go_simp; rfl)); intro gb456 hg w19 hbox hb; have n0_ := Aside0.mk (Kd.R_below (by (with_reducible repeat (first | apply Kd.R_alloc | apply Kd.R_drewN | apply Kd.R_drew)); exact HO_3.out) hb); have n1_ := Aside0.mk (below_step (by repeat (first | (with_reducible first | exact HB.out | apply below_alloc | apply pw_below_drewN | apply below_drew1) | exact HB.out)) hb); have n2_ := Aside0.mk (hbox); have n3_ := Aside0.mk ((by rw [hg]; exact (below_size (by repeat (first | (with_reducible first | exact HB.out | apply below_alloc | apply pw_below_drewN | apply below_drew1) | exact HB.out))) : w.heap.size ≤ gb456)); have n4_ := Aside0.mk ((by rw [hg]; exact (below_size (by repeat (first | (with_reducible first | exact HB.out | apply below_alloc | apply pw_below_drewN | apply below_drew1) | exact HB.out))) : w.heap.size ≤ gb456)); clear HO_3; clear HB; have HO_3 := n0_; have HB := n1_; have BK456 := n2_; have GW456 := n3_; have GE456 := n4_; clear n0_ n1_ n2_ n3_ n4_; clear hb hbox hg; have hcz20_0 : w19.cell? ⟨gb456, 0, none⟩ = some (.string (⟨#[]⟩ : ByteArray)) := (blk_cell BK456.out 0).trans rfl; have hcz20_1 : w19.cell? ⟨gb456, 1, none⟩ = some (.int .u16 0) := (blk_cell BK456.out 1).trans rfl; have hcz20_2 : w19.cell? ⟨gb456, 2, none⟩ = some (.int .u32 0) := (blk_cell BK456.out 2).trans rfl; have hcz20_3 : w19.cell? ⟨gb456, 3, none⟩ = some (.string (⟨#[]⟩ : ByteArray)) := (blk_cell BK456.out 3).trans rfl; have hfz20_0 := blk_frozen BK456.out 0; have hfz20_1 := blk_frozen BK456.out 1; have hfz20_2 := blk_frozen BK456.out 2; have hfz20_3 := blk_frozen BK456.out 3))
                  go_roundg k1
                  case measure => have := HK1.out; omega
                  case rel => exact ⟨(x3_1), (wrap64 (x8_1 + 1)), (by first | rfl | (simp; done) | (simp [*]; done)), H', ⟨by have := HK1.out; omega⟩, ⟨by (with_reducible repeat (first | apply Kd.R_alloc | apply Kd.R_drewN | apply Kd.R_drew)); exact Kd.R_mono (Kd.R_far (p := ⟨gb456, 3, none⟩) (Kd.R_far (p := ⟨gb456, 2, none⟩) (Kd.R_far (p := ⟨gb456, 1, none⟩) (Kd.R_far (p := ⟨gb456, 0, none⟩) (Kd.R_types HO_3.out BK456.out (by decide)) (fun _ hk => hk.2) (.string ((rd_T43 l0 x8_1).f0))) (fun _ hk => hk.2) (.int .u16 ((rd_T43 l0 x8_1).f1))) (fun _ hk => hk.2) (.int .u32 ((rd_T43 l0 x8_1).f2))) (fun _ hk => hk.2) (.string ((rd_T43 l0 x8_1).f3))) (fun _ hk => trivial)⟩, ⟨by repeat (first | (with_reducible first | exact HB.out | apply below_alloc | apply pw_below_drewN | apply below_drew1 | refine below_set ?_ GE456.out) | exact HB.out)⟩⟩
            · rw [if_neg c5] at H
              have c5b0 : (((rd_T43 l0 x8_1).f1) == 1) = false := beq_eq_false_iff_ne.mpr c5
              have c5b1 : (((rd_T43 l0 x8_1).f1) != 1) = true := bne_iff_ne.mpr c5
              by_cases c21 : ((rd_T43 l0 x8_1).f1) = 28
              · rw [if_pos c21] at H
                have c21b0 : (((rd_T43 l0 x8_1).f1) == 28) = true := beq_iff_eq.mpr c21
                have c21b1 : (((rd_T43 l0 x8_1).f1) != 28) = false := bne_eq_false_iff_eq.mpr c21
                clear c21
                by_cases c22 : (((rd_T43 l0 x8_1).f3).size : Int) = 16
                · rw [if_pos c22] at H
                  have c22b0 : ((((rd_T43 l0 x8_1).f3).size : Int) == 16) = true := beq_iff_eq.mpr c22
                  have c22b1 : ((((rd_T43 l0 x8_1).f3).size : Int) != 16) = false := bne_eq_false_iff_eq.mpr c22
                  clear c22
                  by_cases c23 : x3_1.length < 8796093022208
                  · rw [if_pos c23] at H
                    have LMc23 := Aside0.mk c23
                    clear c23
                    obtain ⟨y463, hy463⟩ : ∃ y_ : List ByteArray, y_ = (x3_1 ++ [(rd_T43 l0 x8_1).f3]) := ⟨_, rfl⟩
                    replace H : (reply_Addresses.l0 k1 y463 l0 (l0.length : Int) (wrap64 (x8_1 + 1))) = some r := by first | (rw [hy463]; with_reducible exact H) | (have H2_ := (Option.bind_some _ _).symm.trans H; rw [hy463]; with_reducible exact H2_) | (have H2_ := (Option.bind_some _ _).symm.trans H; with_reducible exact H2_) | with_reducible exact H | (rw [hy463]; exact H) | exact H
                    have Ny463 := Aside0.mk hy463
                    clear hy463
                    have H' := Aside0.mk H
                    clear H
                    have p455 : 0 ≤ (x8_1 : Int) := of_decide_eq_true (by first | (with_reducible assumption) | assumption)
                    have q455 : x8_1 < (l0.length : Int) := of_decide_eq_true (by first | (with_reducible assumption) | assumption)
                    obtain ⟨ad455, e455, hx455_0, hx455_1, hx455_2, hx455_3⟩ := at_T43 HR0.out x8_1 p455 q455
                    cases e455
                    replace hx455_0 := (HB.out.cell (World.block_lt_of_cell? w _ hx455_0)).trans hx455_0
                    replace hx455_1 := (HB.out.cell (World.block_lt_of_cell? w _ hx455_1)).trans hx455_1
                    replace hx455_2 := (HB.out.cell (World.block_lt_of_cell? w _ hx455_2)).trans hx455_2
                    replace hx455_3 := (HB.out.cell (World.block_lt_of_cell? w _ hx455_3)).trans hx455_3
                    replace p455 := eq_true p455
                    replace q455 := eq_true q455
                    go_wp2_with (first | ((with_reducible refine gate_dst (N := 5) rfl ?_); (try (refine gate_guard (by rfl) ?_; dsimp only)); refine box_event ?hg (N := 5) ?hd (cs := #[.string (⟨#[]⟩ : ByteArray), .int .u16 0, .int .u32 0, .string (⟨#[]⟩ : ByteArray)]) (t := 43) ?hr ?_; (case hd => rfl); (case hg => rfl); (case hr => first | (go_simp; done) | (go_simp; rfl)); intro gb456 hg w24 hbox hb; have n0_ := Aside0.mk (Kd.R_below (by (with_reducible repeat (first | apply Kd.R_alloc | apply Kd.R_drewN | apply Kd.R_drew)); exact HO_3.out) hb); have n1_ := Aside0.mk (below_step (by repeat (first | (with_reducible first | exact HB.out | apply below_alloc | apply pw_below_drewN | apply below_drew1) | exact HB.out)) hb); have n2_ := Aside0.mk (hbox); have n3_ := Aside0.mk ((by rw [hg]; exact (below_size (by repeat (first | (with_reducible first | exact HB.out | apply below_alloc | apply pw_below_drewN | apply below_drew1) | exact HB.out))) : w.heap.size ≤ gb456)); have n4_ := Aside0.mk ((by rw [hg]; exact (below_size (by repeat (first | (with_reducible first | exact HB.out | apply below_alloc | apply pw_below_drewN | apply below_drew1) | exact HB.out))) : w.heap.size ≤ gb456)); clear HO_3; clear HB; have HO_3 := n0_; have HB := n1_; have BK456 := n2_; have GW456 := n3_; have GE456 := n4_; clear n0_ n1_ n2_ n3_ n4_; clear hb hbox hg; have hcz25_0 : w24.cell? ⟨gb456, 0, none⟩ = some (.string (⟨#[]⟩ : ByteArray)) := (blk_cell BK456.out 0).trans rfl; have hcz25_1 : w24.cell? ⟨gb456, 1, none⟩ = some (.int .u16 0) := (blk_cell BK456.out 1).trans rfl; have hcz25_2 : w24.cell? ⟨gb456, 2, none⟩ = some (.int .u32 0) := (blk_cell BK456.out 2).trans rfl; have hcz25_3 : w24.cell? ⟨gb456, 3, none⟩ = some (.string (⟨#[]⟩ : ByteArray)) := (blk_cell BK456.out 3).trans rfl; have hfz25_0 := blk_frozen BK456.out 0; have hfz25_1 := blk_frozen BK456.out 1; have hfz25_2 := blk_frozen BK456.out 2; have hfz25_3 := blk_frozen BK456.out 3) | ((with_reducible refine gate_builtin (b := .append) (xs := #[.tmp 32, .tmp 35]) rfl ?_); (try (refine gate_guard (by rfl) ?_; dsimp only)); at_builtin; refine Kd.R_append Kd.string (w0 := w) w.heap.size rfl (.tmp 32) (.tmp 35) 74 9 (.string ⟨#[]⟩) 16 rfl Try.underlying74 info9 rfl (by decide) (by omega) u3 x3_1 ((rd_T43 l0 x8_1).f3) [.string ((rd_T43 l0 x8_1).f3)] (fun _ => True) (fun _ => False) rfl (by first | (go_simp; done) | (go_simp; rfl)) ?aP (fun _ hk => hk.elim) ?aF ?aO ?aB ?aS ?aL ?_; (case aP => exact rfl); (case aB => exact (by repeat (first | (with_reducible first | exact HB.out | apply below_alloc | apply pw_below_drewN | apply below_drew1 | refine below_set ?_ GE456.out) | exact HB.out))); (case aF => exact (fun _ _ => trivial)); (case aO => exact (by (with_reducible repeat (first | apply Kd.R_alloc | apply Kd.R_drewN | apply Kd.R_drew)); exact Kd.R_mono (Kd.R_far (p := ⟨gb456, 3, none⟩) (Kd.R_far (p := ⟨gb456, 2, none⟩) (Kd.R_far (p := ⟨gb456, 1, none⟩) (Kd.R_far (p := ⟨gb456, 0, none⟩) (Kd.R_types HO_3.out BK456.out (by decide)) (fun _ hk => hk.2) (.string ((rd_T43 l0 x8_1).f0))) (fun _ hk => hk.2) (.int .u16 ((rd_T43 l0 x8_1).f1))) (fun _ hk => hk.2) (.int .u32 ((rd_T43 l0 x8_1).f2))) (fun _ hk => hk.2) (.string ((rd_T43 l0 x8_1).f3))) (fun _ hk => trivial))); (case aS => exact (below_size (by repeat (first | (with_reducible first | exact HB.out | apply below_alloc | apply pw_below_drewN | apply below_drew1 | refine below_set ?_ GE456.out) | exact HB.out)))); (case aL => have := LMc23.out; omega); intro v464 w26 ho hb hg hat; rw [← Ny463.out] at ho; have n0_ := Aside0.mk (blk_grown (g := gb456) (o := .cells #[.string ((rd_T43 l0 x8_1).f0), .int .u16 ((rd_T43 l0 x8_1).f1), .int .u32 ((rd_T43 l0 x8_1).f2), .string ((rd_T43 l0 x8_1).f3)] 43 (0, 0)) (by (with_reducible repeat (first | refine blk_drewN ?_ _ | refine blk_drew ?_ | refine blk_alloc ?_ _)); refine blk_put (cs := #[.string ((rd_T43 l0 x8_1).f0), .int .u16 ((rd_T43 l0 x8_1).f1), .int .u32 ((rd_T43 l0 x8_1).f2), .string (⟨#[]⟩ : ByteArray)]) ?_ 3 _ rfl; (with_reducible repeat (first | refine blk_drewN ?_ _ | refine blk_drew ?_ | refine blk_alloc ?_ _)); refine blk_put (cs := #[.string ((rd_T43 l0 x8_1).f0), .int .u16 ((rd_T43 l0 x8_1).f1), .int .u32 0, .string (⟨#[]⟩ : ByteArray)]) ?_ 2 _ rfl; (with_reducible repeat (first | refine blk_drewN ?_ _ | refine blk_drew ?_ | refine blk_alloc ?_ _)); refine blk_put (cs := #[.string ((rd_T43 l0 x8_1).f0), .int .u16 0, .int .u32 0, .string (⟨#[]⟩ : ByteArray)]) ?_ 1 _ rfl; (with_reducible repeat (first | refine blk_drewN ?_ _ | refine blk_drew ?_ | refine blk_alloc ?_ _)); refine blk_put (cs := #[.string (⟨#[]⟩ : ByteArray), .int .u16 0, .int .u32 0, .string (⟨#[]⟩ : ByteArray)]) ?_ 0 _ rfl; (with_reducible repeat (first | refine blk_drewN ?_ _ | refine blk_drew ?_ | refine blk_alloc ?_ _)); exact BK456.out) hg (Kd.R_ne HO_3.out BK456.out (by decide))); have n1_ := Aside0.mk (hb); have n2_ := Aside0.mk (ho); clear BK456; clear HB; clear HO_3; have BK456 := n0_; have HB := n1_; have HO465 := n2_; clear n0_ n1_ n2_; clear ho hb hg hat))
                    go_roundg k1
                    case measure => have := HK1.out; omega
                    case rel => exact ⟨(y463), (wrap64 (x8_1 + 1)), (by first | rfl | (simp; done) | (simp [*]; done)), H', ⟨by have := HK1.out; omega⟩, ⟨by (with_reducible repeat (first | apply Kd.R_alloc | apply Kd.R_drewN | apply Kd.R_drew)); exact HO465.out⟩, ⟨by repeat (first | (with_reducible first | exact HB.out | apply below_alloc | apply pw_below_drewN | apply below_drew1 | refine below_set ?_ GE456.out) | exact HB.out)⟩⟩
                  · rw [if_neg c23] at H
                    exact absurd H (by simp)
                · rw [if_neg c22] at H
                  have c22b0 : ((((rd_T43 l0 x8_1).f3).size : Int) == 16) = false := beq_eq_false_iff_ne.mpr c22
                  have c22b1 : ((((rd_T43 l0 x8_1).f3).size : Int) != 16) = true := bne_iff_ne.mpr c22
                  have H' := Aside0.mk H
                  clear H
                  have p455 : 0 ≤ (x8_1 : Int) := of_decide_eq_true (by first | (with_reducible assumption) | assumption)
                  have q455 : x8_1 < (l0.length : Int) := of_decide_eq_true (by first | (with_reducible assumption) | assumption)
                  obtain ⟨ad455, e455, hx455_0, hx455_1, hx455_2, hx455_3⟩ := at_T43 HR0.out x8_1 p455 q455
                  cases e455
                  replace hx455_0 := (HB.out.cell (World.block_lt_of_cell? w _ hx455_0)).trans hx455_0
                  replace hx455_1 := (HB.out.cell (World.block_lt_of_cell? w _ hx455_1)).trans hx455_1
                  replace hx455_2 := (HB.out.cell (World.block_lt_of_cell? w _ hx455_2)).trans hx455_2
                  replace hx455_3 := (HB.out.cell (World.block_lt_of_cell? w _ hx455_3)).trans hx455_3
                  replace p455 := eq_true p455
                  replace q455 := eq_true q455
                  go_wp2_with (first | ((with_reducible refine gate_dst (N := 5) rfl ?_); (try (refine gate_guard (by rfl) ?_; dsimp only)); refine box_event ?hg (N := 5) ?hd (cs := #[.string (⟨#[]⟩ : ByteArray), .int .u16 0, .int .u32 0, .string (⟨#[]⟩ : ByteArray)]) (t := 43) ?hr ?_; (case hd => rfl); (case hg => rfl); (case hr => first | (go_simp; done) | (go_simp; rfl)); intro gb456 hg w27 hbox hb; have n0_ := Aside0.mk (Kd.R_below (by (with_reducible repeat (first | apply Kd.R_alloc | apply Kd.R_drewN | apply Kd.R_drew)); exact HO_3.out) hb); have n1_ := Aside0.mk (below_step (by repeat (first | (with_reducible first | exact HB.out | apply below_alloc | apply pw_below_drewN | apply below_drew1) | exact HB.out)) hb); have n2_ := Aside0.mk (hbox); have n3_ := Aside0.mk ((by rw [hg]; exact (below_size (by repeat (first | (with_reducible first | exact HB.out | apply below_alloc | apply pw_below_drewN | apply below_drew1) | exact HB.out))) : w.heap.size ≤ gb456)); have n4_ := Aside0.mk ((by rw [hg]; exact (below_size (by repeat (first | (with_reducible first | exact HB.out | apply below_alloc | apply pw_below_drewN | apply below_drew1) | exact HB.out))) : w.heap.size ≤ gb456)); clear HO_3; clear HB; have HO_3 := n0_; have HB := n1_; have BK456 := n2_; have GW456 := n3_; have GE456 := n4_; clear n0_ n1_ n2_ n3_ n4_; clear hb hbox hg; have hcz28_0 : w27.cell? ⟨gb456, 0, none⟩ = some (.string (⟨#[]⟩ : ByteArray)) := (blk_cell BK456.out 0).trans rfl; have hcz28_1 : w27.cell? ⟨gb456, 1, none⟩ = some (.int .u16 0) := (blk_cell BK456.out 1).trans rfl; have hcz28_2 : w27.cell? ⟨gb456, 2, none⟩ = some (.int .u32 0) := (blk_cell BK456.out 2).trans rfl; have hcz28_3 : w27.cell? ⟨gb456, 3, none⟩ = some (.string (⟨#[]⟩ : ByteArray)) := (blk_cell BK456.out 3).trans rfl; have hfz28_0 := blk_frozen BK456.out 0; have hfz28_1 := blk_frozen BK456.out 1; have hfz28_2 := blk_frozen BK456.out 2; have hfz28_3 := blk_frozen BK456.out 3))
                  go_roundg k1
                  case measure => have := HK1.out; omega
                  case rel => exact ⟨(x3_1), (wrap64 (x8_1 + 1)), (by first | rfl | (simp; done) | (simp [*]; done)), H', ⟨by have := HK1.out; omega⟩, ⟨by (with_reducible repeat (first | apply Kd.R_alloc | apply Kd.R_drewN | apply Kd.R_drew)); exact Kd.R_mono (Kd.R_far (p := ⟨gb456, 3, none⟩) (Kd.R_far (p := ⟨gb456, 2, none⟩) (Kd.R_far (p := ⟨gb456, 1, none⟩) (Kd.R_far (p := ⟨gb456, 0, none⟩) (Kd.R_types HO_3.out BK456.out (by decide)) (fun _ hk => hk.2) (.string ((rd_T43 l0 x8_1).f0))) (fun _ hk => hk.2) (.int .u16 ((rd_T43 l0 x8_1).f1))) (fun _ hk => hk.2) (.int .u32 ((rd_T43 l0 x8_1).f2))) (fun _ hk => hk.2) (.string ((rd_T43 l0 x8_1).f3))) (fun _ hk => trivial)⟩, ⟨by repeat (first | (with_reducible first | exact HB.out | apply below_alloc | apply pw_below_drewN | apply below_drew1 | refine below_set ?_ GE456.out) | exact HB.out)⟩⟩
              · rw [if_neg c21] at H
                have c21b0 : (((rd_T43 l0 x8_1).f1) == 28) = false := beq_eq_false_iff_ne.mpr c21
                have c21b1 : (((rd_T43 l0 x8_1).f1) != 28) = true := bne_iff_ne.mpr c21
                have H' := Aside0.mk H
                clear H
                have p455 : 0 ≤ (x8_1 : Int) := of_decide_eq_true (by first | (with_reducible assumption) | assumption)
                have q455 : x8_1 < (l0.length : Int) := of_decide_eq_true (by first | (with_reducible assumption) | assumption)
                obtain ⟨ad455, e455, hx455_0, hx455_1, hx455_2, hx455_3⟩ := at_T43 HR0.out x8_1 p455 q455
                cases e455
                replace hx455_0 := (HB.out.cell (World.block_lt_of_cell? w _ hx455_0)).trans hx455_0
                replace hx455_1 := (HB.out.cell (World.block_lt_of_cell? w _ hx455_1)).trans hx455_1
                replace hx455_2 := (HB.out.cell (World.block_lt_of_cell? w _ hx455_2)).trans hx455_2
                replace hx455_3 := (HB.out.cell (World.block_lt_of_cell? w _ hx455_3)).trans hx455_3
                replace p455 := eq_true p455
                replace q455 := eq_true q455
                go_wp2_with (first | ((with_reducible refine gate_dst (N := 5) rfl ?_); (try (refine gate_guard (by rfl) ?_; dsimp only)); refine box_event ?hg (N := 5) ?hd (cs := #[.string (⟨#[]⟩ : ByteArray), .int .u16 0, .int .u32 0, .string (⟨#[]⟩ : ByteArray)]) (t := 43) ?hr ?_; (case hd => rfl); (case hg => rfl); (case hr => first | (go_simp; done) | (go_simp; rfl)); intro gb456 hg w29 hbox hb; have n0_ := Aside0.mk (Kd.R_below (by (with_reducible repeat (first | apply Kd.R_alloc | apply Kd.R_drewN | apply Kd.R_drew)); exact HO_3.out) hb); have n1_ := Aside0.mk (below_step (by repeat (first | (with_reducible first | exact HB.out | apply below_alloc | apply pw_below_drewN | apply below_drew1) | exact HB.out)) hb); have n2_ := Aside0.mk (hbox); have n3_ := Aside0.mk ((by rw [hg]; exact (below_size (by repeat (first | (with_reducible first | exact HB.out | apply below_alloc | apply pw_below_drewN | apply below_drew1) | exact HB.out))) : w.heap.size ≤ gb456)); have n4_ := Aside0.mk ((by rw [hg]; exact (below_size (by repeat (first | (with_reducible first | exact HB.out | apply below_alloc | apply pw_below_drewN | apply below_drew1) | exact HB.out))) : w.heap.size ≤ gb456)); clear HO_3; clear HB; have HO_3 := n0_; have HB := n1_; have BK456 := n2_; have GW456 := n3_; have GE456 := n4_; clear n0_ n1_ n2_ n3_ n4_; clear hb hbox hg; have hcz30_0 : w29.cell? ⟨gb456, 0, none⟩ = some (.string (⟨#[]⟩ : ByteArray)) := (blk_cell BK456.out 0).trans rfl; have hcz30_1 : w29.cell? ⟨gb456, 1, none⟩ = some (.int .u16 0) := (blk_cell BK456.out 1).trans rfl; have hcz30_2 : w29.cell? ⟨gb456, 2, none⟩ = some (.int .u32 0) := (blk_cell BK456.out 2).trans rfl; have hcz30_3 : w29.cell? ⟨gb456, 3, none⟩ = some (.string (⟨#[]⟩ : ByteArray)) := (blk_cell BK456.out 3).trans rfl; have hfz30_0 := blk_frozen BK456.out 0; have hfz30_1 := blk_frozen BK456.out 1; have hfz30_2 := blk_frozen BK456.out 2; have hfz30_3 := blk_frozen BK456.out 3))
                go_roundg k1
                case measure => have := HK1.out; omega
                case rel => exact ⟨(x3_1), (wrap64 (x8_1 + 1)), (by first | rfl | (simp; done) | (simp [*]; done)), H', ⟨by have := HK1.out; omega⟩, ⟨by (with_reducible repeat (first | apply Kd.R_alloc | apply Kd.R_drewN | apply Kd.R_drew)); exact Kd.R_mono (Kd.R_far (p := ⟨gb456, 3, none⟩) (Kd.R_far (p := ⟨gb456, 2, none⟩) (Kd.R_far (p := ⟨gb456, 1, none⟩) (Kd.R_far (p := ⟨gb456, 0, none⟩) (Kd.R_types HO_3.out BK456.out (by decide)) (fun _ hk => hk.2) (.string ((rd_T43 l0 x8_1).f0))) (fun _ hk => hk.2) (.int .u16 ((rd_T43 l0 x8_1).f1))) (fun _ hk => hk.2) (.int .u32 ((rd_T43 l0 x8_1).f2))) (fun _ hk => hk.2) (.string ((rd_T43 l0 x8_1).f3))) (fun _ hk => trivial)⟩, ⟨by repeat (first | (with_reducible first | exact HB.out | apply below_alloc | apply pw_below_drewN | apply below_drew1 | refine below_set ?_ GE456.out) | exact HB.out)⟩⟩
          · rw [if_neg c4] at H
            exact absurd H (by simp)
        · rw [if_neg c3] at H
          exact absurd H (by simp)
      · rw [if_neg c2] at H
        have c2b0 : decide (x8_1 < (l0.length : Int)) = false := decide_eq_false c2
        clear c2
        obtain rfl := Option.some.inj H
        go_wp2
        go_ret
        exact ⟨_, by first | rfl | (simp [errW_none, errW_some] <;> rfl) | (simp [*, errW_none, errW_some] <;> rfl), by (with_reducible repeat (first | apply Kd.R_alloc | apply Kd.R_drewN | apply Kd.R_drew)); exact HO_3.out, by repeat (first | (with_reducible first | exact HB.out | apply below_alloc | apply pw_below_drewN | apply below_drew1) | exact HB.out)⟩

end Go.Proofs.Ytdkjlbbbdjkhbaa.PAll
