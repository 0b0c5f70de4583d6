-- Written by a program of this session (wip/tools/drive.py over the kit's printer): functions, contracts and rows (All).
import Derived.Test.YtdkjlbbbdjkhbaaPAllx0
import Derived.Test.YtdkjlbbbdjkhbaaPAllx7
namespace Go.Proofs.Ytdkjlbbbdjkhbaa.PAll
open Go.RowKit Go.Proofs.YtdkjlbbbdjkhbaaW.PrintWords Go.Proofs.YtdkjlbbbdjkhbaaW.PrintLast Go.Proofs.YtdkjlbbbdjkhbaaW.PrintMore
attribute [local go_sem] max2_int min2_int max_two min_two max_three min_three max_four min_four   -- for this text's walks alone
open Go.Proofs.Ytdkjlbbbdjkhbaa.Hand
set_option linter.unusedVariables false
set_option linter.unusedSimpArgs false

/-! ### reply_Names: function 35 -/
def reply_Names.l0 : Nat → List ByteArray → List (S43) → Int → Int → Option (List ByteArray)
  | 0, _, _, _, _ => none
  | k + 1, x3, x7, x8, x9 => if x9 < x8 then (if 0 ≤ x9 then (if x9 < (x7.length : Int) then (if ((rd_T43 x7 x9).f1) = 2 then ((name_May.f k ((rd_T43 x7 x9).f3)).bind fun t468 => (if t468 = true then (if x3.length < 8796093022208 then (reply_Names.l0 k (x3 ++ [(rd_T43 x7 x9).f3]) x7 x8 (wrap64 (x9 + 1))) else (none)) else (reply_Names.l0 k x3 x7 x8 (wrap64 (x9 + 1))))) else (reply_Names.l0 k x3 x7 x8 (wrap64 (x9 + 1)))) else (none)) else (none)) else (some x3)
def reply_Names.f (k : Nat) (l0 : List (S43)) : Option (List ByteArray) := reply_Names.l0 k ([] : List ByteArray) l0 (l0.length : Int) 0
theorem reply_Names.mono_l : ∀ k, (∀ y0 y1 y2 y3, LeO (reply_Names.l0 k y0 y1 y2 y3) (reply_Names.l0 (k + 1) y0 y1 y2 y3))
  | 0 => fun _ _ _ _ r h => by simp [reply_Names.l0] at h
  | k + 1 => by
    have ih0 := reply_Names.mono_l k
    · intro y0 y1 y2 y3
      unfold reply_Names.l0
      repeat' first
      | (with_reducible exact ih0 _ _ _ _)
      | (with_reducible exact name_May.mono _ _)
      | (with_reducible exact LeO.refl _)
      | (with_reducible exact LeO.none _)
      | (with_reducible refine LeO.ite ?_ ?_)
      | (with_reducible refine LeO.bind ?_ (fun _ => ?_))
      | exact ih0 _ _ _ _
      | exact name_May.mono _ _
      | exact LeO.none _
      | refine LeO.ite ?_ ?_
      | refine LeO.bind ?_ (fun _ => ?_)
theorem reply_Names.mono : ∀ a0 k, LeO (reply_Names.f k a0) (reply_Names.f (k + 1) a0) := by
  intro a0 k
  have ih0 := reply_Names.mono_l k
  unfold reply_Names.f
  repeat' first
      | (with_reducible exact ih0 _ _ _ _)
      | (with_reducible exact name_May.mono _ _)
      | (with_reducible exact LeO.refl _)
      | (with_reducible exact LeO.none _)
      | (with_reducible refine LeO.ite ?_ ?_)
      | (with_reducible refine LeO.bind ?_ (fun _ => ?_))
      | exact ih0 _ _ _ _
      | exact name_May.mono _ _
      | exact LeO.none _
      | refine LeO.ite ?_ ?_
      | refine LeO.bind ?_ (fun _ => ?_)
set_option maxHeartbeats 8000000 in
set_option maxRecDepth 100000 in
theorem reply_Names.calls (k : Nat) (A0 : Option Addr) (c0 : Nat) (l0 : List (S43)) (r : List ByteArray) (w : World) (hr0 : Kd.C k43 w A0 l0.length l0) (hc0 : l0.length ≤ c0) (h : reply_Names.f k l0 = some r) :
    Calls Try.prog 35 #[.slice A0 l0.length c0] w fun e w' => ∃ v0_ : Value, e = .returned (v0_) ∧ Kd.R Kd.string 25 w' w.heap.size (fun _ => True) v0_ r ∧ Below w.heap.size w w' := by
  have hu43 := Try.underlying43
  have HR0 := Aside0.mk hr0
  have HC0 := Aside0.mk hc0
  clear hr0 hc0
  have HB := Aside0.mk (Below.refl w.heap.size w)
  have H : (reply_Names.l0 k ([] : List ByteArray) l0 (l0.length : Int) 0) = some r := h
  clear h
  have H' := Aside0.mk H
  clear H
  go_enter Try.func35, Try.ntmps35
  go_wp2
  go_loopg [3, 9] k (fun kq v3 v9 w' => ∃ (x3_1 : List ByteArray) (x9_1 : Int), v9 = .int .i64 x9_1 ∧ Aside0 (reply_Names.l0 kq x3_1 l0 (l0.length : Int) x9_1 = some r) ∧ Aside0 (kq ≤ k) ∧ Aside0 (Kd.R Kd.string 25 w' w.heap.size (fun _ => True) v3 x3_1) ∧ Aside0 (Below w.heap.size w w'))
  case atStart => exact ⟨(([] : List ByteArray)), (0), (by first | rfl | (simp; done) | (simp [*]; done)), H', ⟨Nat.le_refl _⟩, ⟨by first | exact Kd.R_nil _ _ _ _ _ | exact Kd.N_nil _ _ _ _ _ | exact Kd.V_nil _ _ _ _ _ | exact Kd.Q_nil _ _ _ _ _ | exact Kd.S_nil _ _ _ _ _⟩, ⟨by repeat (first | (with_reducible first | exact HB.out | apply below_alloc | apply pw_below_drewN | apply below_drew1) | exact HB.out)⟩⟩
  case round =>
    clear H'
    obtain ⟨x3_1, x9_1, rfl, HA, HK1, HO_3, HB⟩ := hrel
    cases gk with
    | zero => exact absurd HA.out (by simp [reply_Names.l0])
    | succ k1 =>
      have H := HA.out
      clear HA
      simp only [reply_Names.l0] at H
      by_cases c2 : x9_1 < (l0.length : Int)
      · rw [if_pos c2] at H
        have c2b0 : decide (x9_1 < (l0.length : Int)) = true := decide_eq_true c2
        clear c2
        by_cases c3 : 0 ≤ x9_1
        · rw [if_pos c3] at H
          have c3b0 : decide (0 ≤ x9_1) = true := decide_eq_true c3
          clear c3
          by_cases c4 : x9_1 < (l0.length : Int)
          · rw [if_pos c4] at H
            have c4b0 : decide (x9_1 < (l0.length : Int)) = true := decide_eq_true c4
            clear c4
            by_cases c5 : ((rd_T43 l0 x9_1).f1) = 2
            · rw [if_pos c5] at H
              have c5b0 : (((rd_T43 l0 x9_1).f1) == 2) = true := beq_iff_eq.mpr c5
              have c5b1 : (((rd_T43 l0 x9_1).f1) != 2) = false := bne_eq_false_iff_eq.mpr c5
              clear c5
              replace H := Option.bind_eq_some_iff.mp H
              obtain ⟨t468, A60, H⟩ := H
              replace H : (if t468 = true then (if x3_1.length < 8796093022208 then (reply_Names.l0 k1 (x3_1 ++ [(rd_T43 l0 x9_1).f3]) l0 (l0.length : Int) (wrap64 (x9_1 + 1))) else (none)) else (reply_Names.l0 k1 x3_1 l0 (l0.length : Int) (wrap64 (x9_1 + 1)))) = some r := H
              have A6 := Aside0.mk A60
              clear A60
              by_cases c7 : t468 = true
              · subst c7
                have H1 : (if x3_1.length < 8796093022208 then (reply_Names.l0 k1 (x3_1 ++ [(rd_T43 l0 x9_1).f3]) l0 (l0.length : Int) (wrap64 (x9_1 + 1))) else (none)) = some r := by rw [if_pos rfl] at H; exact H
                clear H
                have H := H1
                clear H1
                by_cases c8 : x3_1.length < 8796093022208
                · rw [if_pos c8] at H
                  have LMc8 := Aside0.mk c8
                  clear c8
                  obtain ⟨y469, hy469⟩ : ∃ y_ : List ByteArray, y_ = (x3_1 ++ [(rd_T43 l0 x9_1).f3]) := ⟨_, rfl⟩
                  replace H : (reply_Names.l0 k1 y469 l0 (l0.length : Int) (wrap64 (x9_1 + 1))) = some r := by first | (rw [hy469]; with_reducible exact H) | (have H2_ := (Option.bind_some _ _).symm.trans H; rw [hy469]; with_reducible exact H2_) | (have H2_ := (Option.bind_some _ _).symm.trans H; with_reducible exact H2_) | with_reducible exact H | (rw [hy469]; exact H) | exact H
                  have Ny469 := Aside0.mk hy469
                  clear hy469
                  have H' := Aside0.mk H
                  clear H
                  have p466 : 0 ≤ (x9_1 : Int) := of_decide_eq_true (by first | (with_reducible assumption) | assumption)
                  have q466 : x9_1 < (l0.length : Int) := of_decide_eq_true (by first | (with_reducible assumption) | assumption)
                  obtain ⟨ad466, e466, hx466_0, hx466_1, hx466_2, hx466_3⟩ := at_T43 HR0.out x9_1 p466 q466
                  cases e466
                  replace hx466_0 := (HB.out.cell (World.block_lt_of_cell? w _ hx466_0)).trans hx466_0
                  replace hx466_1 := (HB.out.cell (World.block_lt_of_cell? w _ hx466_1)).trans hx466_1
                  replace hx466_2 := (HB.out.cell (World.block_lt_of_cell? w _ hx466_2)).trans hx466_2
                  replace hx466_3 := (HB.out.cell (World.block_lt_of_cell? w _ hx466_3)).trans hx466_3
                  replace p466 := eq_true p466
                  replace q466 := eq_true q466
                  go_wp2_with (first | ((with_reducible refine gate_dst (N := 5) rfl ?_); refine box_event ?hg (N := 5) ?hd (cs := #[.string (⟨#[]⟩ : ByteArray), .int .u16 0, .int .u32 0, .string (⟨#[]⟩ : ByteArray)]) (t := 43) ?hr ?_; (case hd => rfl); (case hg => rfl); (case hr => first | (go_simp; done) | (go_simp; rfl)); intro gb467 hg w9 hbox hb; have n0_ := Aside0.mk (Kd.R_below (by (with_reducible repeat (first | apply Kd.R_alloc | apply Kd.R_drewN | apply Kd.R_drew)); exact HO_3.out) hb); have n1_ := Aside0.mk (below_step (by repeat (first | (with_reducible first | exact HB.out | apply below_alloc | apply pw_below_drewN | apply below_drew1) | exact HB.out)) hb); have n2_ := Aside0.mk (hbox); have n3_ := Aside0.mk ((by rw [hg]; exact (below_size (by repeat (first | (with_reducible first | exact HB.out | apply below_alloc | apply pw_below_drewN | apply below_drew1) | exact HB.out))) : w.heap.size ≤ gb467)); have n4_ := Aside0.mk ((by rw [hg]; exact (below_size (by repeat (first | (with_reducible first | exact HB.out | apply below_alloc | apply pw_below_drewN | apply below_drew1) | exact HB.out))) : w.heap.size ≤ gb467)); clear HO_3; clear HB; have HO_3 := n0_; have HB := n1_; have BK467 := n2_; have GW467 := n3_; have GE467 := n4_; clear n0_ n1_ n2_ n3_ n4_; clear hb hbox hg; have hcz10_0 : w9.cell? ⟨gb467, 0, none⟩ = some (.string (⟨#[]⟩ : ByteArray)) := (blk_cell BK467.out 0).trans rfl; have hcz10_1 : w9.cell? ⟨gb467, 1, none⟩ = some (.int .u16 0) := (blk_cell BK467.out 1).trans rfl; have hcz10_2 : w9.cell? ⟨gb467, 2, none⟩ = some (.int .u32 0) := (blk_cell BK467.out 2).trans rfl; have hcz10_3 : w9.cell? ⟨gb467, 3, none⟩ = some (.string (⟨#[]⟩ : ByteArray)) := (blk_cell BK467.out 3).trans rfl; have hfz10_0 := blk_frozen BK467.out 0; have hfz10_1 := blk_frozen BK467.out 1; have hfz10_2 := blk_frozen BK467.out 2; have hfz10_3 := blk_frozen BK467.out 3) | (go_at_call 18; (with_reducible refine (name_May.calls k1 ((rd_T43 l0 x9_1).f3) true _ A6.out).mono ?_); rintro e w11 ⟨rfl, hb⟩; have n0_ := Aside0.mk (Kd.R_below (by (with_reducible repeat (first | apply Kd.R_alloc | apply Kd.R_drewN | apply Kd.R_drew)); exact (Kd.R_mono (Kd.R_far (p := ⟨gb467, 3, none⟩) (Kd.R_far (p := ⟨gb467, 2, none⟩) (Kd.R_far (p := ⟨gb467, 1, none⟩) (Kd.R_far (p := ⟨gb467, 0, none⟩) (Kd.R_types HO_3.out BK467.out (by decide)) (fun _ hk => hk.2) (.string ((rd_T43 l0 x9_1).f0))) (fun _ hk => hk.2) (.int .u16 ((rd_T43 l0 x9_1).f1))) (fun _ hk => hk.2) (.int .u32 ((rd_T43 l0 x9_1).f2))) (fun _ hk => hk.2) (.string ((rd_T43 l0 x9_1).f3))) (fun _ h_ => h_.1))) hb); have n1_ := Aside0.mk (blk_below (g := gb467) (o := .cells #[.string ((rd_T43 l0 x9_1).f0), .int .u16 ((rd_T43 l0 x9_1).f1), .int .u32 ((rd_T43 l0 x9_1).f2), .string ((rd_T43 l0 x9_1).f3)] 43 (0, 0)) (by (with_reducible repeat (first | refine blk_drewN ?_ _ | refine blk_drew ?_ | refine blk_alloc ?_ _)); refine blk_put (cs := #[.string ((rd_T43 l0 x9_1).f0), .int .u16 ((rd_T43 l0 x9_1).f1), .int .u32 ((rd_T43 l0 x9_1).f2), .string (⟨#[]⟩ : ByteArray)]) ?_ 3 _ rfl; (with_reducible repeat (first | refine blk_drewN ?_ _ | refine blk_drew ?_ | refine blk_alloc ?_ _)); refine blk_put (cs := #[.string ((rd_T43 l0 x9_1).f0), .int .u16 ((rd_T43 l0 x9_1).f1), .int .u32 0, .string (⟨#[]⟩ : ByteArray)]) ?_ 2 _ rfl; (with_reducible repeat (first | refine blk_drewN ?_ _ | refine blk_drew ?_ | refine blk_alloc ?_ _)); refine blk_put (cs := #[.string ((rd_T43 l0 x9_1).f0), .int .u16 0, .int .u32 0, .string (⟨#[]⟩ : ByteArray)]) ?_ 1 _ rfl; (with_reducible repeat (first | refine blk_drewN ?_ _ | refine blk_drew ?_ | refine blk_alloc ?_ _)); refine blk_put (cs := #[.string (⟨#[]⟩ : ByteArray), .int .u16 0, .int .u32 0, .string (⟨#[]⟩ : ByteArray)]) ?_ 0 _ rfl; (with_reducible repeat (first | refine blk_drewN ?_ _ | refine blk_drew ?_ | refine blk_alloc ?_ _)); exact BK467.out) hb); have n2_ := Aside0.mk (below_step (by repeat (first | (with_reducible first | exact HB.out | apply below_alloc | apply pw_below_drewN | apply below_drew1 | refine below_set ?_ GE467.out) | exact HB.out)) hb); clear HO_3; clear BK467; clear HB; have HO_3 := n0_; have BK467 := n1_; have HB := n2_; clear n0_ n1_ n2_; (try clear hb); (try clear hb2); (try clear hk); (try clear hi)) | ((with_reducible refine gate_builtin (b := .append) (xs := #[.tmp 22, .tmp 24]) rfl ?_); at_builtin; refine Kd.R_append Kd.string (w0 := w) w.heap.size rfl (.tmp 22) (.tmp 24) 75 25 (.string ⟨#[]⟩) 16 rfl Try.underlying75 info25 rfl (by decide) (by omega) u3 x3_1 ((rd_T43 l0 x9_1).f3) [.string ((rd_T43 l0 x9_1).f3)] (fun _ => True) (fun _ => False) rfl rfl ?aP (fun _ hk => hk.elim) ?aF ?aO ?aB ?aS ?aL ?_; (case aP => exact rfl); (case aB => exact (by repeat (first | (with_reducible first | exact HB.out | apply below_alloc | apply pw_below_drewN | apply below_drew1 | refine below_set ?_ GE467.out) | exact HB.out))); (case aF => exact (fun _ _ => trivial)); (case aO => exact (by (with_reducible repeat (first | apply Kd.R_alloc | apply Kd.R_drewN | apply Kd.R_drew)); exact HO_3.out)); (case aS => exact (below_size (by repeat (first | (with_reducible first | exact HB.out | apply below_alloc | apply pw_below_drewN | apply below_drew1 | refine below_set ?_ GE467.out) | exact HB.out)))); (case aL => have := LMc8.out; omega); intro v470 w12 ho hb hg hat; rw [← Ny469.out] at ho; have n0_ := Aside0.mk (blk_grown (g := gb467) (o := .cells #[.string ((rd_T43 l0 x9_1).f0), .int .u16 ((rd_T43 l0 x9_1).f1), .int .u32 ((rd_T43 l0 x9_1).f2), .string ((rd_T43 l0 x9_1).f3)] 43 (0, 0)) (by (with_reducible repeat (first | refine blk_drewN ?_ _ | refine blk_drew ?_ | refine blk_alloc ?_ _)); exact BK467.out) hg (Kd.R_ne HO_3.out BK467.out (by decide))); have n1_ := Aside0.mk (hb); have n2_ := Aside0.mk (ho); clear BK467; clear HB; clear HO_3; have BK467 := n0_; have HB := n1_; have HO471 := n2_; clear n0_ n1_ n2_; clear ho hb hg hat))
                  go_roundg k1
                  case measure => have := HK1.out; omega
                  case rel => exact ⟨(y469), (wrap64 (x9_1 + 1)), (by first | rfl | (simp; done) | (simp [*]; done)), H', ⟨by have := HK1.out; omega⟩, ⟨by (with_reducible repeat (first | apply Kd.R_alloc | apply Kd.R_drewN | apply Kd.R_drew)); exact HO471.out⟩, ⟨by repeat (first | (with_reducible first | exact HB.out | apply below_alloc | apply pw_below_drewN | apply below_drew1 | refine below_set ?_ GE467.out) | exact HB.out)⟩⟩
                · rw [if_neg c8] at H
                  exact absurd H (by simp)
              · replace c7 := Bool.eq_false_iff.mpr c7
                subst c7
                have H1 : (reply_Names.l0 k1 x3_1 l0 (l0.length : Int) (wrap64 (x9_1 + 1))) = some r := by rw [if_neg (show ¬ (false = true) by decide)] at H; exact H
                clear H
                have H := H1
                clear H1
                have H' := Aside0.mk H
                clear H
                have p466 : 0 ≤ (x9_1 : Int) := of_decide_eq_true (by first | (with_reducible assumption) | assumption)
                have q466 : x9_1 < (l0.length : Int) := of_decide_eq_true (by first | (with_reducible assumption) | assumption)
                obtain ⟨ad466, e466, hx466_0, hx466_1, hx466_2, hx466_3⟩ := at_T43 HR0.out x9_1 p466 q466
                cases e466
                replace hx466_0 := (HB.out.cell (World.block_lt_of_cell? w _ hx466_0)).trans hx466_0
                replace hx466_1 := (HB.out.cell (World.block_lt_of_cell? w _ hx466_1)).trans hx466_1
                replace hx466_2 := (HB.out.cell (World.block_lt_of_cell? w _ hx466_2)).trans hx466_2
                replace hx466_3 := (HB.out.cell (World.block_lt_of_cell? w _ hx466_3)).trans hx466_3
                replace p466 := eq_true p466
                replace q466 := eq_true q466
                go_wp2_with (first | ((with_reducible refine gate_dst (N := 5) rfl ?_); refine box_event ?hg (N := 5) ?hd (cs := #[.string (⟨#[]⟩ : ByteArray), .int .u16 0, .int .u32 0, .string (⟨#[]⟩ : ByteArray)]) (t := 43) ?hr ?_; (case hd => rfl); (case hg => rfl); (case hr => first | (go_simp; done) | (go_simp; rfl)); intro gb467 hg w13 hbox hb; have n0_ := Aside0.mk (Kd.R_below (by (with_reducible repeat (first | apply Kd.R_alloc | apply Kd.R_drewN | apply Kd.R_drew)); exact HO_3.out) hb); have n1_ := Aside0.mk (below_step (by repeat (first | (with_reducible first | exact HB.out | apply below_alloc | apply pw_below_drewN | apply below_drew1) | exact HB.out)) hb); have n2_ := Aside0.mk (hbox); have n3_ := Aside0.mk ((by rw [hg]; exact (below_size (by repeat (first | (with_reducible first | exact HB.out | apply below_alloc | apply pw_below_drewN | apply below_drew1) | exact HB.out))) : w.heap.size ≤ gb467)); have n4_ := Aside0.mk ((by rw [hg]; exact (below_size (by repeat (first | (with_reducible first | exact HB.out | apply below_alloc | apply pw_below_drewN | apply below_drew1) | exact HB.out))) : w.heap.size ≤ gb467)); clear HO_3; clear HB; have HO_3 := n0_; have HB := n1_; have BK467 := n2_; have GW467 := n3_; have GE467 := n4_; clear n0_ n1_ n2_ n3_ n4_; clear hb hbox hg; have hcz14_0 : w13.cell? ⟨gb467, 0, none⟩ = some (.string (⟨#[]⟩ : ByteArray)) := (blk_cell BK467.out 0).trans rfl; have hcz14_1 : w13.cell? ⟨gb467, 1, none⟩ = some (.int .u16 0) := (blk_cell BK467.out 1).trans rfl; have hcz14_2 : w13.cell? ⟨gb467, 2, none⟩ = some (.int .u32 0) := (blk_cell BK467.out 2).trans rfl; have hcz14_3 : w13.cell? ⟨gb467, 3, none⟩ = some (.string (⟨#[]⟩ : ByteArray)) := (blk_cell BK467.out 3).trans rfl; have hfz14_0 := blk_frozen BK467.out 0; have hfz14_1 := blk_frozen BK467.out 1; have hfz14_2 := blk_frozen BK467.out 2; have hfz14_3 := blk_frozen BK467.out 3) | (go_at_call 18; (with_reducible refine (name_May.calls k1 ((rd_T43 l0 x9_1).f3) false _ A6.out).mono ?_); rintro e w15 ⟨rfl, hb⟩; have n0_ := Aside0.mk (Kd.R_below (by (with_reducible repeat (first | apply Kd.R_alloc | apply Kd.R_drewN | apply Kd.R_drew)); exact (Kd.R_mono (Kd.R_far (p := ⟨gb467, 3, none⟩) (Kd.R_far (p := ⟨gb467, 2, none⟩) (Kd.R_far (p := ⟨gb467, 1, none⟩) (Kd.R_far (p := ⟨gb467, 0, none⟩) (Kd.R_types HO_3.out BK467.out (by decide)) (fun _ hk => hk.2) (.string ((rd_T43 l0 x9_1).f0))) (fun _ hk => hk.2) (.int .u16 ((rd_T43 l0 x9_1).f1))) (fun _ hk => hk.2) (.int .u32 ((rd_T43 l0 x9_1).f2))) (fun _ hk => hk.2) (.string ((rd_T43 l0 x9_1).f3))) (fun _ h_ => h_.1))) hb); have n1_ := Aside0.mk (blk_below (g := gb467) (o := .cells #[.string ((rd_T43 l0 x9_1).f0), .int .u16 ((rd_T43 l0 x9_1).f1), .int .u32 ((rd_T43 l0 x9_1).f2), .string ((rd_T43 l0 x9_1).f3)] 43 (0, 0)) (by (with_reducible repeat (first | refine blk_drewN ?_ _ | refine blk_drew ?_ | refine blk_alloc ?_ _)); refine blk_put (cs := #[.string ((rd_T43 l0 x9_1).f0), .int .u16 ((rd_T43 l0 x9_1).f1), .int .u32 ((rd_T43 l0 x9_1).f2), .string (⟨#[]⟩ : ByteArray)]) ?_ 3 _ rfl; (with_reducible repeat (first | refine blk_drewN ?_ _ | refine blk_drew ?_ | refine blk_alloc ?_ _)); refine blk_put (cs := #[.string ((rd_T43 l0 x9_1).f0), .int .u16 ((rd_T43 l0 x9_1).f1), .int .u32 0, .string (⟨#[]⟩ : ByteArray)]) ?_ 2 _ rfl; (with_reducible repeat (first | refine blk_drewN ?_ _ | refine blk_drew ?_ | refine blk_alloc ?_ _)); refine blk_put (cs := #[.string ((rd_T43 l0 x9_1).f0), .int .u16 0, .int .u32 0, .string (⟨#[]⟩ : ByteArray)]) ?_ 1 _ rfl; (with_reducible repeat (first | refine blk_drewN ?_ _ | refine blk_drew ?_ | refine blk_alloc ?_ _)); refine blk_put (cs := #[.string (⟨#[]⟩ : ByteArray), .int .u16 0, .int .u32 0, .string (⟨#[]⟩ : ByteArray)]) ?_ 0 _ rfl; (with_reducible repeat (first | refine blk_drewN ?_ _ | refine blk_drew ?_ | refine blk_alloc ?_ _)); exact BK467.out) hb); have n2_ := Aside0.mk (below_step (by repeat (first | (with_reducible first | exact HB.out | apply below_alloc | apply pw_below_drewN | apply below_drew1 | refine below_set ?_ GE467.out) | exact HB.out)) hb); clear HO_3; clear BK467; clear HB; have HO_3 := n0_; have BK467 := n1_; have HB := n2_; clear n0_ n1_ n2_; (try clear hb); (try clear hb2); (try clear hk); (try clear hi)))
                go_roundg k1
                case measure => have := HK1.out; omega
                case rel => exact ⟨(x3_1), (wrap64 (x9_1 + 1)), (by first | rfl | (simp; done) | (simp [*]; done)), H', ⟨by have := HK1.out; omega⟩, ⟨by (with_reducible repeat (first | apply Kd.R_alloc | apply Kd.R_drewN | apply Kd.R_drew)); exact HO_3.out⟩, ⟨by repeat (first | (with_reducible first | exact HB.out | apply below_alloc | apply pw_below_drewN | apply below_drew1 | refine below_set ?_ GE467.out) | exact HB.out)⟩⟩
            · rw [if_neg c5] at H
              have c5b0 : (((rd_T43 l0 x9_1).f1) == 2) = false := beq_eq_false_iff_ne.mpr c5
              have c5b1 : (((rd_T43 l0 x9_1).f1) != 2) = true := bne_iff_ne.mpr c5
              have H' := Aside0.mk H
              clear H
              have p466 : 0 ≤ (x9_1 : Int) := of_decide_eq_true (by first | (with_reducible assumption) | assumption)
              have q466 : x9_1 < (l0.length : Int) := of_decide_eq_true (by first | (with_reducible assumption) | assumption)
              obtain ⟨ad466, e466, hx466_0, hx466_1, hx466_2, hx466_3⟩ := at_T43 HR0.out x9_1 p466 q466
              cases e466
              replace hx466_0 := (HB.out.cell (World.block_lt_of_cell? w _ hx466_0)).trans hx466_0
              replace hx466_1 := (HB.out.cell (World.block_lt_of_cell? w _ hx466_1)).trans hx466_1
              replace hx466_2 := (HB.out.cell (World.block_lt_of_cell? w _ hx466_2)).trans hx466_2
              replace hx466_3 := (HB.out.cell (World.block_lt_of_cell? w _ hx466_3)).trans hx466_3
              replace p466 := eq_true p466
              replace q466 := eq_true q466
              go_wp2_with (first | ((with_reducible refine gate_dst (N := 5) rfl ?_); refine box_event ?hg (N := 5) ?hd (cs := #[.string (⟨#[]⟩ : ByteArray), .int .u16 0, .int .u32 0, .string (⟨#[]⟩ : ByteArray)]) (t := 43) ?hr ?_; (case hd => rfl); (case hg => rfl); (case hr => first | (go_simp; done) | (go_simp; rfl)); intro gb467 hg w16 hbox hb; have n0_ := Aside0.mk (Kd.R_below (by (with_reducible repeat (first | apply Kd.R_alloc | apply Kd.R_drewN | apply Kd.R_drew)); exact HO_3.out) hb); have n1_ := Aside0.mk (below_step (by repeat (first | (with_reducible first | exact HB.out | apply below_alloc | apply pw_below_drewN | apply below_drew1) | exact HB.out)) hb); have n2_ := Aside0.mk (hbox); have n3_ := Aside0.mk ((by rw [hg]; exact (below_size (by repeat (first | (with_reducible first | exact HB.out | apply below_alloc | apply pw_below_drewN | apply below_drew1) | exact HB.out))) : w.heap.size ≤ gb467)); have n4_ := Aside0.mk ((by rw [hg]; exact (below_size (by repeat (first | (with_reducible first | exact HB.out | apply below_alloc | apply pw_below_drewN | apply below_drew1) | exact HB.out))) : w.heap.size ≤ gb467)); clear HO_3; clear HB; have HO_3 := n0_; have HB := n1_; have BK467 := n2_; have GW467 := n3_; have GE467 := n4_; clear n0_ n1_ n2_ n3_ n4_; clear hb hbox hg; have hcz17_0 : w16.cell? ⟨gb467, 0, none⟩ = some (.string (⟨#[]⟩ : ByteArray)) := (blk_cell BK467.out 0).trans rfl; have hcz17_1 : w16.cell? ⟨gb467, 1, none⟩ = some (.int .u16 0) := (blk_cell BK467.out 1).trans rfl; have hcz17_2 : w16.cell? ⟨gb467, 2, none⟩ = some (.int .u32 0) := (blk_cell BK467.out 2).trans rfl; have hcz17_3 : w16.cell? ⟨gb467, 3, none⟩ = some (.string (⟨#[]⟩ : ByteArray)) := (blk_cell BK467.out 3).trans rfl; have hfz17_0 := blk_frozen BK467.out 0; have hfz17_1 := blk_frozen BK467.out 1; have hfz17_2 := blk_frozen BK467.out 2; have hfz17_3 := blk_frozen BK467.out 3))
              go_roundg k1
              case measure => have := HK1.out; omega
              case rel => exact ⟨(x3_1), (wrap64 (x9_1 + 1)), (by first | rfl | (simp; done) | (simp [*]; done)), H', ⟨by have := HK1.out; omega⟩, ⟨by (with_reducible repeat (first | apply Kd.R_alloc | apply Kd.R_drewN | apply Kd.R_drew)); exact Kd.R_mono (Kd.R_far (p := ⟨gb467, 3, none⟩) (Kd.R_far (p := ⟨gb467, 2, none⟩) (Kd.R_far (p := ⟨gb467, 1, none⟩) (Kd.R_far (p := ⟨gb467, 0, none⟩) (Kd.R_types HO_3.out BK467.out (by decide)) (fun _ hk => hk.2) (.string ((rd_T43 l0 x9_1).f0))) (fun _ hk => hk.2) (.int .u16 ((rd_T43 l0 x9_1).f1))) (fun _ hk => hk.2) (.int .u32 ((rd_T43 l0 x9_1).f2))) (fun _ hk => hk.2) (.string ((rd_T43 l0 x9_1).f3))) (fun _ hk => trivial)⟩, ⟨by repeat (first | (with_reducible first | exact HB.out | apply below_alloc | apply pw_below_drewN | apply below_drew1 | refine below_set ?_ GE467.out) | exact HB.out)⟩⟩
          · rw [if_neg c4] at H
            exact absurd H (by simp)
        · rw [if_neg c3] at H
          exact absurd H (by simp)
      · rw [if_neg c2] at H
        have c2b0 : decide (x9_1 < (l0.length : Int)) = false := decide_eq_false c2
        clear c2
        obtain rfl := Option.some.inj H
        go_wp2
        go_ret
        exact ⟨_, by first | rfl | (simp [errW_none, errW_some] <;> rfl) | (simp [*, errW_none, errW_some] <;> rfl), by (with_reducible repeat (first | apply Kd.R_alloc | apply Kd.R_drewN | apply Kd.R_drew)); exact HO_3.out, by repeat (first | (with_reducible first | exact HB.out | apply below_alloc | apply pw_below_drewN | apply below_drew1) | exact HB.out)⟩

end Go.Proofs.Ytdkjlbbbdjkhbaa.PAll
