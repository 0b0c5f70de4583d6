-- Written by a program of this session (wip/tools/drive.py over the kit's printer): functions, contracts and rows (All).
import Derived.Test.YtdkjlbbbdjkhbaaPAllx0
import Derived.Test.YtdkjlbbbdjkhbaaHandG
namespace Go.Proofs.Ytdkjlbbbdjkhbaa.PAll
open Go.RowKit Go.Proofs.YtdkjlbbbdjkhbaaW.PrintWords Go.Proofs.YtdkjlbbbdjkhbaaW.PrintLast Go.Proofs.YtdkjlbbbdjkhbaaW.PrintMore
attribute [local go_sem] max2_int min2_int max_two min_two max_three min_three max_four min_four   -- for this text's walks alone
open Go.Proofs.Ytdkjlbbbdjkhbaa.Hand
set_option linter.unusedVariables false
set_option linter.unusedSimpArgs false

/-! ### action_Of: function 19 -/
def action_Of.l0 : Nat → List (S43) → List (S43) → List (S43) → Int → Int → Option (Int × ByteArray × Bool × (List (S43)) × Bool)
 | 0, _, _, _, _, _ => none
 | k + 1, x0, x4, x7, x8, x9 => if x9 < x8 then (if 0 ≤ x9 then (if x9 < (x7.length : Int) then (if ((rd_T43 x7 x9).f1) = 5 then (if (x0.length : Int) > 1 then (some (0, (⟨#[]⟩ : ByteArray), false, ([] : List (S43)), false)) else (if ((rd_T43 x7 x9).f1) = 6 then (some (0, (⟨#[]⟩ : ByteArray), false, ([] : List (S43)), false)) else (if ((rd_T43 x7 x9).f1) = 2 then (some (0, (⟨#[]⟩ : ByteArray), false, ([] : List (S43)), false)) else (if x4.length < 3518437208883 then (action_Of.l0 k x0 (x4 ++ [(⟨(rd_T43 x7 x9).f0, (rd_T43 x7 x9).f1, (rd_T43 x7 x9).f2, (rd_T43 x7 x9).f3⟩ : S43)]) x7 x8 (wrap64 (x9 + 1))) else (none))))) else (if ((rd_T43 x7 x9).f1) = 6 then (some (0, (⟨#[]⟩ : ByteArray), false, ([] : List (S43)), false)) else (if ((rd_T43 x7 x9).f1) = 2 then (some (0, (⟨#[]⟩ : ByteArray), false, ([] : List (S43)), false)) else (if x4.length < 3518437208883 then (action_Of.l0 k x0 (x4 ++ [(⟨(rd_T43 x7 x9).f0, (rd_T43 x7 x9).f1, (rd_T43 x7 x9).f2, (rd_T43 x7 x9).f3⟩ : S43)]) x7 x8 (wrap64 (x9 + 1))) else (none))))) else (none)) else (none)) else (if (x0.length : Int) = 0 then (some (0, (⟨#[]⟩ : ByteArray), false, ([] : List (S43)), false)) else (if 0 < (x0.length : Int) then (if ((rd_T43 x0 0).f1) = 5 then ((action_target.f ((rd_T43 x0 0).f3)).bind fun bt699 => (some (bt699.1, bt699.2.1, bt699.2.2.1, bt699.2.2.2, true))) else (some (8, (⟨#[]⟩ : ByteArray), false, x4, true))) else (none)))
def action_Of.f (k : Nat) (l0 : List (S43)) : Option (Int × ByteArray × Bool × (List (S43)) × Bool) := action_Of.l0 k l0 ([] : List (S43)) l0 (l0.length : Int) 0
theorem action_Of.mono_l : ∀ k, (∀ y0 y1 y2 y3 y4, LeO (action_Of.l0 k y0 y1 y2 y3 y4) (action_Of.l0 (k + 1) y0 y1 y2 y3 y4))
 | 0 => fun _ _ _ _ _ r h => by simp [action_Of.l0] at h
 | k + 1 => by
  have ih0 := action_Of.mono_l k
  ·intro y0 y1 y2 y3 y4
   unfold action_Of.l0
   repeat' first
   | (with_reducible exact ih0 _ _ _ _ _)
   | (with_reducible exact LeO.refl _)
   | (with_reducible exact LeO.none _)
   | (with_reducible refine LeO.ite ?_ ?_)
   | (with_reducible refine LeO.bind ?_ (fun _ => ?_))
   | exact ih0 _ _ _ _ _
   | exact LeO.none _
   | refine LeO.ite ?_ ?_
   | refine LeO.bind ?_ (fun _ => ?_)
theorem action_Of.mono : ∀ a0 k, LeO (action_Of.f k a0) (action_Of.f (k + 1) a0) := by
 intro a0 k
 have ih0 := action_Of.mono_l k
 unfold action_Of.f
 repeat' first
   | (with_reducible exact ih0 _ _ _ _ _)
   | (with_reducible exact LeO.refl _)
   | (with_reducible exact LeO.none _)
   | (with_reducible refine LeO.ite ?_ ?_)
   | (with_reducible refine LeO.bind ?_ (fun _ => ?_))
   | exact ih0 _ _ _ _ _
   | exact LeO.none _
   | refine LeO.ite ?_ ?_
   | refine LeO.bind ?_ (fun _ => ?_)
set_option maxHeartbeats 8000000 in
set_option maxRecDepth 100000 in
theorem action_Of.calls (k : Nat) (A0 : Option Addr) (c0 : Nat) (l0 : List (S43)) (r1 : Int) (r2 : ByteArray) (r3 : Bool) (r4 : List (S43)) (r5 : Bool) (w : World) (hr0 : Kd.C k43 w A0 l0.length l0) (hc0 : l0.length ≤ c0) (h : action_Of.f k l0 = some (r1, r2, r3, r4, r5)) :
  Calls Try.prog 19 #[.slice A0 l0.length c0] w fun e w' => ∃ v3_ : Value, e = .returned (.tuple #[.agg #[.int .i64 r1, .string r2, .bool r3, v3_], .bool r5]) ∧ Kd.R k43 43 w' w.heap.size (fun _ => True) v3_ r4 ∧ Below w.heap.size w w' := by
 have hu28 := Try.underlying28
 have hu43 := Try.underlying43
 have HR0 := Aside0.mk hr0
 have HC0 := Aside0.mk hc0
 clear hr0 hc0
 have HB := Aside0.mk (Below.refl w.heap.size w)
 have H : (action_Of.l0 k l0 ([] : List (S43)) l0 (l0.length : Int) 0) = some (r1, r2, r3, r4, r5) := h
 clear h
 have H' := Aside0.mk H
 clear H
 go_enter Try.func19, Try.ntmps19
 go_wp2_with (first | ((with_reducible refine gate_dst (N := 2) rfl ?_); (try (refine gate_guard (by rfl) ?_; dsimp only)); refine box_event ?hg (N := 2) ?hd (cs := #[.int .i64 0, .string (⟨#[]⟩ : ByteArray), .bool false, .slice none 0 0]) (t := 28) ?hr ?_; (case hd => rfl); (case hg => rfl); (case hr => first | (go_simp; done) | (go_simp; rfl)); intro gb688 hg w2 hbox hb; have n0_ := Aside0.mk (below_step (by repeat (first | (with_reducible first | exact HB.out | apply below_alloc | apply pw_below_drewN | apply below_drew1) | exact HB.out)) hb); have n1_ := Aside0.mk (hbox); have n2_ := Aside0.mk ((by rw [hg]; exact (below_size (by repeat (first | (with_reducible first | exact HB.out | apply below_alloc | apply pw_below_drewN | apply below_drew1) | exact HB.out))) : w.heap.size ≤ gb688)); have n3_ := Aside0.mk ((by rw [hg]; exact (below_size (by repeat (first | (with_reducible first | exact HB.out | apply below_alloc | apply pw_below_drewN | apply below_drew1) | exact HB.out))) : w.heap.size ≤ gb688)); clear HB; have HB := n0_; have BK688 := n1_; have GW688 := n2_; have GE688 := n3_; clear n0_ n1_ n2_ n3_; clear hb hbox hg))
 go_loopg [4, 9] k (fun kq v4 v9 w' => ∃ (x4_1 : List (S43)) (x9_1 : Int) (x689000_1 : Int) (x689001_1 : ByteArray) (x689002_1 : Bool), v9 = .int .i64 x9_1 ∧ Aside0 (action_Of.l0 kq l0 x4_1 l0 (l0.length : Int) x9_1 = some (r1, r2, r3, r4, r5)) ∧ Aside0 (kq ≤ k) ∧ Aside0 (Kd.R k43 43 w' w.heap.size (fun _ => True) v4 x4_1) ∧ Aside0 (w'.heap[gb688]? = some (.cells #[.int .i64 x689000_1, .string x689001_1, .bool x689002_1, (.slice none 0 0)] 28 (0, 0))) ∧ Aside0 (Below w.heap.size w w'))
 case atStart => exact ⟨(([] : List (S43))), (0), (0), ((⟨#[]⟩ : ByteArray)), (false), (by first | rfl | (simp; done) | (simp [*]; done)), H', ⟨Nat.le_refl _⟩, ⟨by first | exact Kd.R_nil _ _ _ _ _ | exact Kd.N_nil _ _ _ _ _ | exact Kd.V_nil _ _ _ _ _ | exact Kd.Q_nil _ _ _ _ _ | exact Kd.S_nil _ _ _ _ _⟩, ⟨by (with_reducible repeat (first | refine blk_drewN ?_ _ | refine blk_drew ?_ | refine blk_alloc ?_ _)); exact BK688.out⟩, ⟨by repeat (first | (with_reducible first | exact HB.out | apply below_alloc | apply pw_below_drewN | apply below_drew1 | refine below_set ?_ GE688.out) | exact HB.out)⟩⟩
 case round =>
  clear H'
  try clear c1
  try clear p2
  obtain ⟨x4_1, x9_1, x689000_1, x689001_1, x689002_1, rfl, HA, HK1, HO_4, BK688, HB⟩ := hrel
  cases gk with
  | zero => exact absurd HA.out (by simp [action_Of.l0])
  | succ k1 =>
   have H := HA.out
   clear HA
   simp only [action_Of.l0] at H
   by_cases c3 : x9_1 < (l0.length : Int)
   rotate_left
   ·rw [if_neg c3] at H
    have c3b0 : decide (x9_1 < (l0.length : Int)) = false := decide_eq_false c3
    clear c3
    by_cases c42 : (l0.length : Int) = 0
    ·rw [if_pos c42] at H
     have c42b0 : ((l0.length : Int) == 0) = true := beq_iff_eq.mpr c42
     have c42b1 : ((l0.length : Int) != 0) = false := bne_eq_false_iff_eq.mpr c42
     clear c42
     simp only [Option.some.injEq, Prod.mk.injEq] at H
     obtain ⟨rfl, rfl, rfl, rfl, rfl⟩ := H
     have hcz43_0 : wr.cell? ⟨gb688, 0, none⟩ = some (.int .i64 x689000_1) := (blk_cell BK688.out 0).trans rfl
     have hcz43_1 : wr.cell? ⟨gb688, 1, none⟩ = some (.string x689001_1) := (blk_cell BK688.out 1).trans rfl
     have hcz43_2 : wr.cell? ⟨gb688, 2, none⟩ = some (.bool x689002_1) := (blk_cell BK688.out 2).trans rfl
     have hcz43_3 : wr.cell? ⟨gb688, 3, none⟩ = some (.slice none 0 0) := (blk_cell BK688.out 3).trans rfl
     have hfz43_0 := blk_frozen BK688.out 0
     have hfz43_1 := blk_frozen BK688.out 1
     have hfz43_2 := blk_frozen BK688.out 2
     have hfz43_3 := blk_frozen BK688.out 3
     go_wp2
     refine bodyPost_ret (results_ct rfl _ _ gb688 28 #[.int .i64 0, .string (⟨#[]⟩ : ByteArray), .bool false, .slice none 0 0] (0, 0) _ rfl (by (with_reducible repeat (first | refine blk_drewN ?_ _ | refine blk_drew ?_ | refine blk_alloc ?_ _)); refine blk_put (cs := #[.int .i64 0, .string (⟨#[]⟩ : ByteArray), .bool false, .slice none 0 0]) ?_ 3 _ rfl; (with_reducible repeat (first | refine blk_drewN ?_ _ | refine blk_drew ?_ | refine blk_alloc ?_ _)); refine blk_put (cs := #[.int .i64 0, .string (⟨#[]⟩ : ByteArray), .bool x689002_1, .slice none 0 0]) ?_ 2 _ rfl; (with_reducible repeat (first | refine blk_drewN ?_ _ | refine blk_drew ?_ | refine blk_alloc ?_ _)); refine blk_put (cs := #[.int .i64 0, .string x689001_1, .bool x689002_1, .slice none 0 0]) ?_ 1 _ rfl; (with_reducible repeat (first | refine blk_drewN ?_ _ | refine blk_drew ?_ | refine blk_alloc ?_ _)); refine blk_put (cs := #[.int .i64 x689000_1, .string x689001_1, .bool x689002_1, .slice none 0 0]) ?_ 0 _ rfl; (with_reducible repeat (first | refine blk_drewN ?_ _ | refine blk_drew ?_ | refine blk_alloc ?_ _)); exact BK688.out) Try.underlying28 rfl (by kernel_rfl)) rfl ?_
     exact ⟨_, by first | rfl | (simp [errW_none, errW_some] <;> rfl) | (simp [*, errW_none, errW_some] <;> rfl), by first | exact Kd.R_nil _ _ _ _ _ | exact Kd.N_nil _ _ _ _ _ | exact Kd.V_nil _ _ _ _ _ | exact Kd.Q_nil _ _ _ _ _ | exact Kd.S_nil _ _ _ _ _, by repeat (first | (with_reducible first | exact HB.out | apply below_alloc | apply pw_below_drewN | apply below_drew1 | refine below_set ?_ GE688.out) | exact HB.out)⟩
    rw [if_neg c42] at H
    have c42b0 : ((l0.length : Int) == 0) = false := beq_eq_false_iff_ne.mpr c42
    have c42b1 : ((l0.length : Int) != 0) = true := bne_iff_ne.mpr c42
    have c42b2 : ¬ (l0 = []) := fun h_ => c42 (by rw [h_]; rfl)
    by_cases c44 : 0 < (l0.length : Int)
    rotate_left
    ·rw [if_neg c44] at H
     exact absurd H (by simp)
    rw [if_pos c44] at H
    have c44b0 : decide (0 < (l0.length : Int)) = true := decide_eq_true c44
    have c44b1 : decide (0 < l0.length) = true := decide_eq_true (by omega)
    clear c44
    by_cases c45 : ((rd_T43 l0 0).f1) = 5
    rotate_left
    ·rw [if_neg c45] at H
     have c45b0 : (((rd_T43 l0 0).f1) == 5) = false := beq_eq_false_iff_ne.mpr c45
     have c45b1 : (((rd_T43 l0 0).f1) != 5) = true := bne_iff_ne.mpr c45
     simp only [Option.some.injEq, Prod.mk.injEq] at H
     obtain ⟨rfl, rfl, rfl, rfl, rfl⟩ := H
     have p697 : 0 ≤ (0 : Int) := (by omega)
     have q697 : 0 < (l0.length : Int) := of_decide_eq_true (by first | (with_reducible assumption) | assumption)
     obtain ⟨ad697, e697, hx697_0, hx697_1, hx697_2, hx697_3⟩ := at_T43 HR0.out 0 p697 q697
     cases e697
     have qi697 : (0 < l0.length) = True := eq_true (by omega)
     (try rw [show ((0 : Int)).toNat = 0 from rfl] at hx697_0)
     (try rw [show 0 * 4 = 0 from rfl] at hx697_0)
     (try rw [Addr.add_zero'] at hx697_0)
     (try rw [show ((0 : Int)).toNat = 0 from rfl] at hx697_1)
     (try rw [show 0 * 4 = 0 from rfl] at hx697_1)
     (try rw [Addr.add_zero'] at hx697_1)
     (try rw [show ((0 : Int)).toNat = 0 from rfl] at hx697_2)
     (try rw [show 0 * 4 = 0 from rfl] at hx697_2)
     (try rw [Addr.add_zero'] at hx697_2)
     (try rw [show ((0 : Int)).toNat = 0 from rfl] at hx697_3)
     (try rw [show 0 * 4 = 0 from rfl] at hx697_3)
     (try rw [Addr.add_zero'] at hx697_3)
     replace hx697_0 := (HB.out.cell (World.block_lt_of_cell? w _ hx697_0)).trans hx697_0
     replace hx697_1 := (HB.out.cell (World.block_lt_of_cell? w _ hx697_1)).trans hx697_1
     replace hx697_2 := (HB.out.cell (World.block_lt_of_cell? w _ hx697_2)).trans hx697_2
     replace hx697_3 := (HB.out.cell (World.block_lt_of_cell? w _ hx697_3)).trans hx697_3
     replace p697 := eq_true p697
     replace q697 := eq_true q697
     obtain ⟨Ao50, co50, eo50⟩ := Kd.R_slice HO_4.out
     subst eo50
     have hcz51_0 : wr.cell? ⟨gb688, 0, none⟩ = some (.int .i64 x689000_1) := (blk_cell BK688.out 0).trans rfl
     have hcz51_1 : wr.cell? ⟨gb688, 1, none⟩ = some (.string x689001_1) := (blk_cell BK688.out 1).trans rfl
     have hcz51_2 : wr.cell? ⟨gb688, 2, none⟩ = some (.bool x689002_1) := (blk_cell BK688.out 2).trans rfl
     have hcz51_3 : wr.cell? ⟨gb688, 3, none⟩ = some (.slice none 0 0) := (blk_cell BK688.out 3).trans rfl
     have hfz51_0 := blk_frozen BK688.out 0
     have hfz51_1 := blk_frozen BK688.out 1
     have hfz51_2 := blk_frozen BK688.out 2
     have hfz51_3 := blk_frozen BK688.out 3
     go_wp2
     refine bodyPost_ret (results_ct rfl _ _ gb688 28 #[.int .i64 8, .string (⟨#[]⟩ : ByteArray), .bool false, .slice Ao50 x4_1.length co50] (0, 0) _ rfl (by (with_reducible repeat (first | refine blk_drewN ?_ _ | refine blk_drew ?_ | refine blk_alloc ?_ _)); refine blk_put (cs := #[.int .i64 8, .string (⟨#[]⟩ : ByteArray), .bool false, .slice none 0 0]) ?_ 3 _ rfl; (with_reducible repeat (first | refine blk_drewN ?_ _ | refine blk_drew ?_ | refine blk_alloc ?_ _)); refine blk_put (cs := #[.int .i64 8, .string (⟨#[]⟩ : ByteArray), .bool x689002_1, .slice none 0 0]) ?_ 2 _ rfl; (with_reducible repeat (first | refine blk_drewN ?_ _ | refine blk_drew ?_ | refine blk_alloc ?_ _)); refine blk_put (cs := #[.int .i64 8, .string x689001_1, .bool x689002_1, .slice none 0 0]) ?_ 1 _ rfl; (with_reducible repeat (first | refine blk_drewN ?_ _ | refine blk_drew ?_ | refine blk_alloc ?_ _)); refine blk_put (cs := #[.int .i64 x689000_1, .string x689001_1, .bool x689002_1, .slice none 0 0]) ?_ 0 _ rfl; (with_reducible repeat (first | refine blk_drewN ?_ _ | refine blk_drew ?_ | refine blk_alloc ?_ _)); exact BK688.out) Try.underlying28 rfl (by kernel_rfl)) rfl ?_
     exact ⟨_, by first | rfl | (simp [errW_none, errW_some] <;> rfl) | (simp [*, errW_none, errW_some] <;> rfl), by (with_reducible repeat (first | apply Kd.R_alloc | apply Kd.R_drewN | apply Kd.R_drew)); exact Kd.R_mono (Kd.R_far (p := ⟨gb688, 3, none⟩) (Kd.R_far (p := ⟨gb688, 2, none⟩) (Kd.R_far (p := ⟨gb688, 1, none⟩) (Kd.R_far (p := ⟨gb688, 0, none⟩) (Kd.R_types HO_4.out BK688.out (by decide)) (fun _ hk => hk.2) (.int .i64 8)) (fun _ hk => hk.2) (.string (⟨#[]⟩ : ByteArray))) (fun _ hk => hk.2) (.bool false)) (fun _ hk => hk.2) (.slice Ao50 x4_1.length co50)) (fun _ hk => trivial), by repeat (first | (with_reducible first | exact HB.out | apply below_alloc | apply pw_below_drewN | apply below_drew1 | refine below_set ?_ GE688.out) | exact HB.out)⟩
    rw [if_pos c45] at H
    have c45b0 : (((rd_T43 l0 0).f1) == 5) = true := beq_iff_eq.mpr c45
    have c45b1 : (((rd_T43 l0 0).f1) != 5) = false := bne_eq_false_iff_eq.mpr c45
    clear c45
    replace H := Option.bind_eq_some_iff.mp H
    obtain ⟨⟨t699, t700, t701, t702⟩, A460, H⟩ := H
    replace H : (some (t699, t700, t701, t702, true)) = some (r1, r2, r3, r4, r5) := H
    have A46 := Aside0.mk A460
    clear A460
    simp only [Option.some.injEq, Prod.mk.injEq] at H
    obtain ⟨rfl, rfl, rfl, rfl, rfl⟩ := H
    have p697 : 0 ≤ (0 : Int) := (by omega)
    have q697 : 0 < (l0.length : Int) := of_decide_eq_true (by first | (with_reducible assumption) | assumption)
    obtain ⟨ad697, e697, hx697_0, hx697_1, hx697_2, hx697_3⟩ := at_T43 HR0.out 0 p697 q697
    cases e697
    have qi697 : (0 < l0.length) = True := eq_true (by omega)
    (try rw [show ((0 : Int)).toNat = 0 from rfl] at hx697_0)
    (try rw [show 0 * 4 = 0 from rfl] at hx697_0)
    (try rw [Addr.add_zero'] at hx697_0)
    (try rw [show ((0 : Int)).toNat = 0 from rfl] at hx697_1)
    (try rw [show 0 * 4 = 0 from rfl] at hx697_1)
    (try rw [Addr.add_zero'] at hx697_1)
    (try rw [show ((0 : Int)).toNat = 0 from rfl] at hx697_2)
    (try rw [show 0 * 4 = 0 from rfl] at hx697_2)
    (try rw [Addr.add_zero'] at hx697_2)
    (try rw [show ((0 : Int)).toNat = 0 from rfl] at hx697_3)
    (try rw [show 0 * 4 = 0 from rfl] at hx697_3)
    (try rw [Addr.add_zero'] at hx697_3)
    replace hx697_0 := (HB.out.cell (World.block_lt_of_cell? w _ hx697_0)).trans hx697_0
    replace hx697_1 := (HB.out.cell (World.block_lt_of_cell? w _ hx697_1)).trans hx697_1
    replace hx697_2 := (HB.out.cell (World.block_lt_of_cell? w _ hx697_2)).trans hx697_2
    replace hx697_3 := (HB.out.cell (World.block_lt_of_cell? w _ hx697_3)).trans hx697_3
    replace p697 := eq_true p697
    replace q697 := eq_true q697
    have p698 : 0 ≤ (0 : Int) := (by omega)
    have q698 : 0 < (l0.length : Int) := of_decide_eq_true (by first | (with_reducible assumption) | assumption)
    obtain ⟨ad698, e698, hx698_0, hx698_1, hx698_2, hx698_3⟩ := at_T43 HR0.out 0 p698 q698
    obtain rfl : ad697 = ad698 := (by injection e698)
    have qi698 : (0 < l0.length) = True := eq_true (by omega)
    (try rw [show ((0 : Int)).toNat = 0 from rfl] at hx698_0)
    (try rw [show 0 * 4 = 0 from rfl] at hx698_0)
    (try rw [Addr.add_zero'] at hx698_0)
    (try rw [show ((0 : Int)).toNat = 0 from rfl] at hx698_1)
    (try rw [show 0 * 4 = 0 from rfl] at hx698_1)
    (try rw [Addr.add_zero'] at hx698_1)
    (try rw [show ((0 : Int)).toNat = 0 from rfl] at hx698_2)
    (try rw [show 0 * 4 = 0 from rfl] at hx698_2)
    (try rw [Addr.add_zero'] at hx698_2)
    (try rw [show ((0 : Int)).toNat = 0 from rfl] at hx698_3)
    (try rw [show 0 * 4 = 0 from rfl] at hx698_3)
    (try rw [Addr.add_zero'] at hx698_3)
    replace hx698_0 := (HB.out.cell (World.block_lt_of_cell? w _ hx698_0)).trans hx698_0
    replace hx698_1 := (HB.out.cell (World.block_lt_of_cell? w _ hx698_1)).trans hx698_1
    replace hx698_2 := (HB.out.cell (World.block_lt_of_cell? w _ hx698_2)).trans hx698_2
    replace hx698_3 := (HB.out.cell (World.block_lt_of_cell? w _ hx698_3)).trans hx698_3
    replace p698 := eq_true p698
    replace q698 := eq_true q698
    go_wp2_with (first | ((with_reducible refine gate_callee (f := 40) rfl ?_); refine goesL_ (some 52) rfl rfl Try.func40 (by kernel_rfl) rfl #[.string ((rd_T43 l0 0).f3)] rfl (by (try simp only [List.map_toArray, List.map_cons, List.map_nil]); first | done | rfl | (simp only [List.length_drop, List.length_take]; rfl)) ?_; (with_reducible refine (action_target.calls ((rd_T43 l0 0).f3) t699 t700 t701 t702 _ A46.out).mono ?_); rintro e w47 ⟨v703, rfl, ho0, hb⟩; refine ⟨_, rfl, ?_⟩; have n0_ := Aside0.mk (Kd.R_elder' (by (with_reducible repeat (first | apply Kd.R_alloc | apply Kd.R_drewN | apply Kd.R_drew)); exact HO_4.out) (Kd.R_base ho0) hb); have n1_ := Aside0.mk (Kd.R_lower (Kd.R_new' ho0 (Kd.R_lt (by (with_reducible repeat (first | apply Kd.R_alloc | apply Kd.R_drewN | apply Kd.R_drew)); exact HO_4.out))) (below_size (by repeat (first | (with_reducible first | exact HB.out | apply below_alloc | apply pw_below_drewN | apply below_drew1 | refine below_set ?_ GE688.out) | exact HB.out)))); have n2_ := Aside0.mk (blk_below (g := gb688) (o := .cells #[.int .i64 x689000_1, .string x689001_1, .bool x689002_1, .slice none 0 0] 28 (0, 0)) (by (with_reducible repeat (first | refine blk_drewN ?_ _ | refine blk_drew ?_ | refine blk_alloc ?_ _)); exact BK688.out) hb); have n3_ := Aside0.mk (below_step (by repeat (first | (with_reducible first | exact HB.out | apply below_alloc | apply pw_below_drewN | apply below_drew1 | refine below_set ?_ GE688.out) | exact HB.out)) hb); clear HO_4; clear BK688; clear HB; have HO_4 := n0_; have HO704 := n1_; have BK688 := n2_; have HB := n3_; clear n0_ n1_ n2_ n3_; (try clear hb); (try clear hb2); (try clear hk); (try clear hi); (try clear ho0); have hcz48_0 : w47.cell? ⟨gb688, 0, none⟩ = some (.int .i64 x689000_1) := (blk_cell BK688.out 0).trans rfl; have hcz48_1 : w47.cell? ⟨gb688, 1, none⟩ = some (.string x689001_1) := (blk_cell BK688.out 1).trans rfl; have hcz48_2 : w47.cell? ⟨gb688, 2, none⟩ = some (.bool x689002_1) := (blk_cell BK688.out 2).trans rfl; have hcz48_3 : w47.cell? ⟨gb688, 3, none⟩ = some (.slice none 0 0) := (blk_cell BK688.out 3).trans rfl; have hfz48_0 := blk_frozen BK688.out 0; have hfz48_1 := blk_frozen BK688.out 1; have hfz48_2 := blk_frozen BK688.out 2; have hfz48_3 := blk_frozen BK688.out 3; obtain ⟨Ao49, co49, eo49⟩ := Kd.R_slice HO704.out; subst eo49))
    refine bodyPost_ret (results_ct rfl _ _ gb688 28 #[.int .i64 t699, .string t700, .bool t701, .slice Ao49 t702.length co49] (0, 0) _ rfl (by (with_reducible repeat (first | refine blk_drewN ?_ _ | refine blk_drew ?_ | refine blk_alloc ?_ _)); refine blk_put (cs := #[.int .i64 t699, .string t700, .bool t701, .slice none 0 0]) ?_ 3 _ rfl; (with_reducible repeat (first | refine blk_drewN ?_ _ | refine blk_drew ?_ | refine blk_alloc ?_ _)); refine blk_put (cs := #[.int .i64 t699, .string t700, .bool x689002_1, .slice none 0 0]) ?_ 2 _ rfl; (with_reducible repeat (first | refine blk_drewN ?_ _ | refine blk_drew ?_ | refine blk_alloc ?_ _)); refine blk_put (cs := #[.int .i64 t699, .string x689001_1, .bool x689002_1, .slice none 0 0]) ?_ 1 _ rfl; (with_reducible repeat (first | refine blk_drewN ?_ _ | refine blk_drew ?_ | refine blk_alloc ?_ _)); refine blk_put (cs := #[.int .i64 x689000_1, .string x689001_1, .bool x689002_1, .slice none 0 0]) ?_ 0 _ rfl; (with_reducible repeat (first | refine blk_drewN ?_ _ | refine blk_drew ?_ | refine blk_alloc ?_ _)); exact BK688.out) Try.underlying28 rfl (by kernel_rfl)) rfl ?_
    exact ⟨_, by first | rfl | (simp [errW_none, errW_some] <;> rfl) | (simp [*, errW_none, errW_some] <;> rfl), by (with_reducible repeat (first | apply Kd.R_alloc | apply Kd.R_drewN | apply Kd.R_drew)); exact Kd.R_mono (Kd.R_far (p := ⟨gb688, 3, none⟩) (Kd.R_far (p := ⟨gb688, 2, none⟩) (Kd.R_far (p := ⟨gb688, 1, none⟩) (Kd.R_far (p := ⟨gb688, 0, none⟩) (Kd.R_types HO704.out BK688.out (by decide)) (fun _ hk => hk.2) (.int .i64 t699)) (fun _ hk => hk.2) (.string t700)) (fun _ hk => hk.2) (.bool t701)) (fun _ hk => hk.2) (.slice Ao49 t702.length co49)) (fun _ hk => trivial), by repeat (first | (with_reducible first | exact HB.out | apply below_alloc | apply pw_below_drewN | apply below_drew1 | refine below_set ?_ GE688.out) | exact HB.out)⟩
   rw [if_pos c3] at H
   have c3b0 : decide (x9_1 < (l0.length : Int)) = true := decide_eq_true c3
   clear c3
   by_cases c4 : 0 ≤ x9_1
   rotate_left
   ·rw [if_neg c4] at H
    exact absurd H (by simp)
   rw [if_pos c4] at H
   have c4b0 : decide (0 ≤ x9_1) = true := decide_eq_true c4
   clear c4
   by_cases c5 : x9_1 < (l0.length : Int)
   rotate_left
   ·rw [if_neg c5] at H
    exact absurd H (by simp)
   rw [if_pos c5] at H
   have c5b0 : decide (x9_1 < (l0.length : Int)) = true := decide_eq_true c5
   clear c5
   by_cases c6 : ((rd_T43 l0 x9_1).f1) = 5
   rotate_left
   ·rw [if_neg c6] at H
    have c6b0 : (((rd_T43 l0 x9_1).f1) == 5) = false := beq_eq_false_iff_ne.mpr c6
    have c6b1 : (((rd_T43 l0 x9_1).f1) != 5) = true := bne_iff_ne.mpr c6
    by_cases c27 : ((rd_T43 l0 x9_1).f1) = 6
    ·rw [if_pos c27] at H
     have c27b0 : (((rd_T43 l0 x9_1).f1) == 6) = true := beq_iff_eq.mpr c27
     have c27b1 : (((rd_T43 l0 x9_1).f1) != 6) = false := bne_eq_false_iff_eq.mpr c27
     clear c27
     simp only [Option.some.injEq, Prod.mk.injEq] at H
     obtain ⟨rfl, rfl, rfl, rfl, rfl⟩ := H
     have p689 : 0 ≤ (x9_1 : Int) := of_decide_eq_true (by first | (with_reducible assumption) | assumption)
     have q689 : x9_1 < (l0.length : Int) := of_decide_eq_true (by first | (with_reducible assumption) | assumption)
     obtain ⟨ad689, e689, hx689_0, hx689_1, hx689_2, hx689_3⟩ := at_T43 HR0.out x9_1 p689 q689
     cases e689
     replace hx689_0 := (HB.out.cell (World.block_lt_of_cell? w _ hx689_0)).trans hx689_0
     replace hx689_1 := (HB.out.cell (World.block_lt_of_cell? w _ hx689_1)).trans hx689_1
     replace hx689_2 := (HB.out.cell (World.block_lt_of_cell? w _ hx689_2)).trans hx689_2
     replace hx689_3 := (HB.out.cell (World.block_lt_of_cell? w _ hx689_3)).trans hx689_3
     replace p689 := eq_true p689
     replace q689 := eq_true q689
     go_wp2_with (first | ((with_reducible refine gate_dst (N := 6) rfl ?_); (try (refine gate_guard (by rfl) ?_; dsimp only)); refine box_event ?hg (N := 6) ?hd (cs := #[.string (⟨#[]⟩ : ByteArray), .int .u16 0, .int .u32 0, .string (⟨#[]⟩ : ByteArray)]) (t := 43) ?hr ?_; (case hd => rfl); (case hg => rfl); (case hr => first | (go_simp; done) | (go_simp; rfl)); intro gb690 hg w28 hbox hb; have n0_ := Aside0.mk (Kd.R_below (Kd.R_elderB (by (with_reducible repeat (first | apply Kd.R_alloc | apply Kd.R_drewN | apply Kd.R_drew)); exact HO_4.out) gb690 (Nat.le_of_eq hg.symm)) hb); have n1_ := Aside0.mk (blk_below (g := gb688) (o := .cells #[.int .i64 x689000_1, .string x689001_1, .bool x689002_1, .slice none 0 0] 28 (0, 0)) (by (with_reducible repeat (first | refine blk_drewN ?_ _ | refine blk_drew ?_ | refine blk_alloc ?_ _)); exact BK688.out) hb); have n2_ := Aside0.mk (below_step (by repeat (first | (with_reducible first | exact HB.out | apply below_alloc | apply pw_below_drewN | apply below_drew1 | refine below_set ?_ GE688.out) | exact HB.out)) hb); have n3_ := Aside0.mk (hbox); have n4_ := Aside0.mk ((by rw [hg]; exact (below_size (by repeat (first | (with_reducible first | exact HB.out | apply below_alloc | apply pw_below_drewN | apply below_drew1 | refine below_set ?_ GE688.out) | exact HB.out))) : w.heap.size ≤ gb690)); have n5_ := Aside0.mk ((by rw [hg]; exact (below_size (by repeat (first | (with_reducible first | exact HB.out | apply below_alloc | apply pw_below_drewN | apply below_drew1 | refine below_set ?_ GE688.out) | exact HB.out))) : w.heap.size ≤ gb690)); have n6_ := Aside0.mk ((by rw [hg]; exact Nat.ne_of_lt (blk_lt (g := gb688) (o := .cells #[.int .i64 x689000_1, .string x689001_1, .bool x689002_1, .slice none 0 0] 28 (0, 0)) (by (with_reducible repeat (first | refine blk_drewN ?_ _ | refine blk_drew ?_ | refine blk_alloc ?_ _)); exact BK688.out)) : gb688 ≠ gb690)); have n7_ := Aside0.mk ((by rw [hg]; exact Nat.ne_of_gt (blk_lt (g := gb688) (o := .cells #[.int .i64 x689000_1, .string x689001_1, .bool x689002_1, .slice none 0 0] 28 (0, 0)) (by (with_reducible repeat (first | refine blk_drewN ?_ _ | refine blk_drew ?_ | refine blk_alloc ?_ _)); exact BK688.out)) : gb690 ≠ gb688)); clear HO_4; clear BK688; clear HB; have HO_4 := n0_; have BK688 := n1_; have HB := n2_; have BK690 := n3_; have GW690 := n4_; have GE690 := n5_; have NB688_690 := n6_; have NB690_688 := n7_; clear n0_ n1_ n2_ n3_ n4_ n5_ n6_ n7_; clear hb hbox hg; have hnb29 := NB690_688.out; have hnc29 := NB688_690.out; have hcz30_0 : w28.cell? ⟨gb690, 0, none⟩ = some (.string (⟨#[]⟩ : ByteArray)) := (blk_cell BK690.out 0).trans rfl; have hcz30_1 : w28.cell? ⟨gb690, 1, none⟩ = some (.int .u16 0) := (blk_cell BK690.out 1).trans rfl; have hcz30_2 : w28.cell? ⟨gb690, 2, none⟩ = some (.int .u32 0) := (blk_cell BK690.out 2).trans rfl; have hcz30_3 : w28.cell? ⟨gb690, 3, none⟩ = some (.string (⟨#[]⟩ : ByteArray)) := (blk_cell BK690.out 3).trans rfl; have hfz30_0 := blk_frozen BK690.out 0; have hfz30_1 := blk_frozen BK690.out 1; have hfz30_2 := blk_frozen BK690.out 2; have hfz30_3 := blk_frozen BK690.out 3; have hcz31_0 : w28.cell? ⟨gb688, 0, none⟩ = some (.int .i64 x689000_1) := (blk_cell BK688.out 0).trans rfl; have hcz31_1 : w28.cell? ⟨gb688, 1, none⟩ = some (.string x689001_1) := (blk_cell BK688.out 1).trans rfl; have hcz31_2 : w28.cell? ⟨gb688, 2, none⟩ = some (.bool x689002_1) := (blk_cell BK688.out 2).trans rfl; have hcz31_3 : w28.cell? ⟨gb688, 3, none⟩ = some (.slice none 0 0) := (blk_cell BK688.out 3).trans rfl; have hfz31_0 := blk_frozen BK688.out 0; have hfz31_1 := blk_frozen BK688.out 1; have hfz31_2 := blk_frozen BK688.out 2; have hfz31_3 := blk_frozen BK688.out 3))
     refine bodyPost_ret (results_ct rfl _ _ gb688 28 #[.int .i64 0, .string (⟨#[]⟩ : ByteArray), .bool false, .slice none 0 0] (0, 0) _ rfl (by (with_reducible repeat (first | refine blk_drewN ?_ _ | refine blk_drew ?_ | refine blk_alloc ?_ _)); refine blk_put (cs := #[.int .i64 0, .string (⟨#[]⟩ : ByteArray), .bool false, .slice none 0 0]) ?_ 3 _ rfl; (with_reducible repeat (first | refine blk_drewN ?_ _ | refine blk_drew ?_ | refine blk_alloc ?_ _)); refine blk_put (cs := #[.int .i64 0, .string (⟨#[]⟩ : ByteArray), .bool x689002_1, .slice none 0 0]) ?_ 2 _ rfl; (with_reducible repeat (first | refine blk_drewN ?_ _ | refine blk_drew ?_ | refine blk_alloc ?_ _)); refine blk_put (cs := #[.int .i64 0, .string x689001_1, .bool x689002_1, .slice none 0 0]) ?_ 1 _ rfl; (with_reducible repeat (first | refine blk_drewN ?_ _ | refine blk_drew ?_ | refine blk_alloc ?_ _)); refine blk_put (cs := #[.int .i64 x689000_1, .string x689001_1, .bool x689002_1, .slice none 0 0]) ?_ 0 _ rfl; (with_reducible repeat (first | refine blk_drewN ?_ _ | refine blk_drew ?_ | refine blk_alloc ?_ _)); refine blk_far ?_ NB688_690.out _; (with_reducible repeat (first | refine blk_drewN ?_ _ | refine blk_drew ?_ | refine blk_alloc ?_ _)); refine blk_far ?_ NB688_690.out _; (with_reducible repeat (first | refine blk_drewN ?_ _ | refine blk_drew ?_ | refine blk_alloc ?_ _)); refine blk_far ?_ NB688_690.out _; (with_reducible repeat (first | refine blk_drewN ?_ _ | refine blk_drew ?_ | refine blk_alloc ?_ _)); refine blk_far ?_ NB688_690.out _; (with_reducible repeat (first | refine blk_drewN ?_ _ | refine blk_drew ?_ | refine blk_alloc ?_ _)); exact BK688.out) Try.underlying28 rfl (by kernel_rfl)) rfl ?_
     exact ⟨_, by first | rfl | (simp [errW_none, errW_some] <;> rfl) | (simp [*, errW_none, errW_some] <;> rfl), by first | exact Kd.R_nil _ _ _ _ _ | exact Kd.N_nil _ _ _ _ _ | exact Kd.V_nil _ _ _ _ _ | exact Kd.Q_nil _ _ _ _ _ | exact Kd.S_nil _ _ _ _ _, by repeat (first | (with_reducible first | exact HB.out | apply below_alloc | apply pw_below_drewN | apply below_drew1 | refine below_set ?_ GE688.out | refine below_set ?_ GE690.out) | exact HB.out)⟩
    rw [if_neg c27] at H
    have c27b0 : (((rd_T43 l0 x9_1).f1) == 6) = false := beq_eq_false_iff_ne.mpr c27
    have c27b1 : (((rd_T43 l0 x9_1).f1) != 6) = true := bne_iff_ne.mpr c27
    by_cases c32 : ((rd_T43 l0 x9_1).f1) = 2
    ·rw [if_pos c32] at H
     have c32b0 : (((rd_T43 l0 x9_1).f1) == 2) = true := beq_iff_eq.mpr c32
     have c32b1 : (((rd_T43 l0 x9_1).f1) != 2) = false := bne_eq_false_iff_eq.mpr c32
     clear c32
     simp only [Option.some.injEq, Prod.mk.injEq] at H
     obtain ⟨rfl, rfl, rfl, rfl, rfl⟩ := H
     have p689 : 0 ≤ (x9_1 : Int) := of_decide_eq_true (by first | (with_reducible assumption) | assumption)
     have q689 : x9_1 < (l0.length : Int) := of_decide_eq_true (by first | (with_reducible assumption) | assumption)
     obtain ⟨ad689, e689, hx689_0, hx689_1, hx689_2, hx689_3⟩ := at_T43 HR0.out x9_1 p689 q689
     cases e689
     replace hx689_0 := (HB.out.cell (World.block_lt_of_cell? w _ hx689_0)).trans hx689_0
     replace hx689_1 := (HB.out.cell (World.block_lt_of_cell? w _ hx689_1)).trans hx689_1
     replace hx689_2 := (HB.out.cell (World.block_lt_of_cell? w _ hx689_2)).trans hx689_2
     replace hx689_3 := (HB.out.cell (World.block_lt_of_cell? w _ hx689_3)).trans hx689_3
     replace p689 := eq_true p689
     replace q689 := eq_true q689
     go_wp2_with (first | ((with_reducible refine gate_dst (N := 6) rfl ?_); (try (refine gate_guard (by rfl) ?_; dsimp only)); refine box_event ?hg (N := 6) ?hd (cs := #[.string (⟨#[]⟩ : ByteArray), .int .u16 0, .int .u32 0, .string (⟨#[]⟩ : ByteArray)]) (t := 43) ?hr ?_; (case hd => rfl); (case hg => rfl); (case hr => first | (go_simp; done) | (go_simp; rfl)); intro gb690 hg w33 hbox hb; have n0_ := Aside0.mk (Kd.R_below (Kd.R_elderB (by (with_reducible repeat (first | apply Kd.R_alloc | apply Kd.R_drewN | apply Kd.R_drew)); exact HO_4.out) gb690 (Nat.le_of_eq hg.symm)) hb); have n1_ := Aside0.mk (blk_below (g := gb688) (o := .cells #[.int .i64 x689000_1, .string x689001_1, .bool x689002_1, .slice none 0 0] 28 (0, 0)) (by (with_reducible repeat (first | refine blk_drewN ?_ _ | refine blk_drew ?_ | refine blk_alloc ?_ _)); exact BK688.out) hb); have n2_ := Aside0.mk (below_step (by repeat (first | (with_reducible first | exact HB.out | apply below_alloc | apply pw_below_drewN | apply below_drew1 | refine below_set ?_ GE688.out) | exact HB.out)) hb); have n3_ := Aside0.mk (hbox); have n4_ := Aside0.mk ((by rw [hg]; exact (below_size (by repeat (first | (with_reducible first | exact HB.out | apply below_alloc | apply pw_below_drewN | apply below_drew1 | refine below_set ?_ GE688.out) | exact HB.out))) : w.heap.size ≤ gb690)); have n5_ := Aside0.mk ((by rw [hg]; exact (below_size (by repeat (first | (with_reducible first | exact HB.out | apply below_alloc | apply pw_below_drewN | apply below_drew1 | refine below_set ?_ GE688.out) | exact HB.out))) : w.heap.size ≤ gb690)); have n6_ := Aside0.mk ((by rw [hg]; exact Nat.ne_of_lt (blk_lt (g := gb688) (o := .cells #[.int .i64 x689000_1, .string x689001_1, .bool x689002_1, .slice none 0 0] 28 (0, 0)) (by (with_reducible repeat (first | refine blk_drewN ?_ _ | refine blk_drew ?_ | refine blk_alloc ?_ _)); exact BK688.out)) : gb688 ≠ gb690)); have n7_ := Aside0.mk ((by rw [hg]; exact Nat.ne_of_gt (blk_lt (g := gb688) (o := .cells #[.int .i64 x689000_1, .string x689001_1, .bool x689002_1, .slice none 0 0] 28 (0, 0)) (by (with_reducible repeat (first | refine blk_drewN ?_ _ | refine blk_drew ?_ | refine blk_alloc ?_ _)); exact BK688.out)) : gb690 ≠ gb688)); clear HO_4; clear BK688; clear HB; have HO_4 := n0_; have BK688 := n1_; have HB := n2_; have BK690 := n3_; have GW690 := n4_; have GE690 := n5_; have NB688_690 := n6_; have NB690_688 := n7_; clear n0_ n1_ n2_ n3_ n4_ n5_ n6_ n7_; clear hb hbox hg; have hnb34 := NB690_688.out; have hnc34 := NB688_690.out; have hcz35_0 : w33.cell? ⟨gb690, 0, none⟩ = some (.string (⟨#[]⟩ : ByteArray)) := (blk_cell BK690.out 0).trans rfl; have hcz35_1 : w33.cell? ⟨gb690, 1, none⟩ = some (.int .u16 0) := (blk_cell BK690.out 1).trans rfl; have hcz35_2 : w33.cell? ⟨gb690, 2, none⟩ = some (.int .u32 0) := (blk_cell BK690.out 2).trans rfl; have hcz35_3 : w33.cell? ⟨gb690, 3, none⟩ = some (.string (⟨#[]⟩ : ByteArray)) := (blk_cell BK690.out 3).trans rfl; have hfz35_0 := blk_frozen BK690.out 0; have hfz35_1 := blk_frozen BK690.out 1; have hfz35_2 := blk_frozen BK690.out 2; have hfz35_3 := blk_frozen BK690.out 3; have hcz36_0 : w33.cell? ⟨gb688, 0, none⟩ = some (.int .i64 x689000_1) := (blk_cell BK688.out 0).trans rfl; have hcz36_1 : w33.cell? ⟨gb688, 1, none⟩ = some (.string x689001_1) := (blk_cell BK688.out 1).trans rfl; have hcz36_2 : w33.cell? ⟨gb688, 2, none⟩ = some (.bool x689002_1) := (blk_cell BK688.out 2).trans rfl; have hcz36_3 : w33.cell? ⟨gb688, 3, none⟩ = some (.slice none 0 0) := (blk_cell BK688.out 3).trans rfl; have hfz36_0 := blk_frozen BK688.out 0; have hfz36_1 := blk_frozen BK688.out 1; have hfz36_2 := blk_frozen BK688.out 2; have hfz36_3 := blk_frozen BK688.out 3))
     refine bodyPost_ret (results_ct rfl _ _ gb688 28 #[.int .i64 0, .string (⟨#[]⟩ : ByteArray), .bool false, .slice none 0 0] (0, 0) _ rfl (by (with_reducible repeat (first | refine blk_drewN ?_ _ | refine blk_drew ?_ | refine blk_alloc ?_ _)); refine blk_put (cs := #[.int .i64 0, .string (⟨#[]⟩ : ByteArray), .bool false, .slice none 0 0]) ?_ 3 _ rfl; (with_reducible repeat (first | refine blk_drewN ?_ _ | refine blk_drew ?_ | refine blk_alloc ?_ _)); refine blk_put (cs := #[.int .i64 0, .string (⟨#[]⟩ : ByteArray), .bool x689002_1, .slice none 0 0]) ?_ 2 _ rfl; (with_reducible repeat (first | refine blk_drewN ?_ _ | refine blk_drew ?_ | refine blk_alloc ?_ _)); refine blk_put (cs := #[.int .i64 0, .string x689001_1, .bool x689002_1, .slice none 0 0]) ?_ 1 _ rfl; (with_reducible repeat (first | refine blk_drewN ?_ _ | refine blk_drew ?_ | refine blk_alloc ?_ _)); refine blk_put (cs := #[.int .i64 x689000_1, .string x689001_1, .bool x689002_1, .slice none 0 0]) ?_ 0 _ rfl; (with_reducible repeat (first | refine blk_drewN ?_ _ | refine blk_drew ?_ | refine blk_alloc ?_ _)); refine blk_far ?_ NB688_690.out _; (with_reducible repeat (first | refine blk_drewN ?_ _ | refine blk_drew ?_ | refine blk_alloc ?_ _)); refine blk_far ?_ NB688_690.out _; (with_reducible repeat (first | refine blk_drewN ?_ _ | refine blk_drew ?_ | refine blk_alloc ?_ _)); refine blk_far ?_ NB688_690.out _; (with_reducible repeat (first | refine blk_drewN ?_ _ | refine blk_drew ?_ | refine blk_alloc ?_ _)); refine blk_far ?_ NB688_690.out _; (with_reducible repeat (first | refine blk_drewN ?_ _ | refine blk_drew ?_ | refine blk_alloc ?_ _)); exact BK688.out) Try.underlying28 rfl (by kernel_rfl)) rfl ?_
     exact ⟨_, by first | rfl | (simp [errW_none, errW_some] <;> rfl) | (simp [*, errW_none, errW_some] <;> rfl), by first | exact Kd.R_nil _ _ _ _ _ | exact Kd.N_nil _ _ _ _ _ | exact Kd.V_nil _ _ _ _ _ | exact Kd.Q_nil _ _ _ _ _ | exact Kd.S_nil _ _ _ _ _, by repeat (first | (with_reducible first | exact HB.out | apply below_alloc | apply pw_below_drewN | apply below_drew1 | refine below_set ?_ GE688.out | refine below_set ?_ GE690.out) | exact HB.out)⟩
    rw [if_neg c32] at H
    have c32b0 : (((rd_T43 l0 x9_1).f1) == 2) = false := beq_eq_false_iff_ne.mpr c32
    have c32b1 : (((rd_T43 l0 x9_1).f1) != 2) = true := bne_iff_ne.mpr c32
    by_cases c37 : x4_1.length < 3518437208883
    rotate_left
    ·rw [if_neg c37] at H
     exact absurd H (by simp)
    rw [if_pos c37] at H
    have LMc37 := Aside0.mk c37
    clear c37
    obtain ⟨y694, hy694⟩ : ∃ y_ : List (S43), y_ = (x4_1 ++ [(⟨(rd_T43 l0 x9_1).f0, (rd_T43 l0 x9_1).f1, (rd_T43 l0 x9_1).f2, (rd_T43 l0 x9_1).f3⟩ : S43)]) := ⟨_, rfl⟩
    replace H : (action_Of.l0 k1 l0 y694 l0 (l0.length : Int) (wrap64 (x9_1 + 1))) = some (r1, r2, r3, r4, r5) := by first | (rw [hy694]; with_reducible exact H) | (have H2_ := (Option.bind_some _ _).symm.trans H; rw [hy694]; with_reducible exact H2_) | (have H2_ := (Option.bind_some _ _).symm.trans H; with_reducible exact H2_) | with_reducible exact H | (rw [hy694]; exact H) | exact H
    have Ny694 := Aside0.mk hy694
    clear hy694
    have H' := Aside0.mk H
    clear H
    have p689 : 0 ≤ (x9_1 : Int) := of_decide_eq_true (by first | (with_reducible assumption) | assumption)
    have q689 : x9_1 < (l0.length : Int) := of_decide_eq_true (by first | (with_reducible assumption) | assumption)
    obtain ⟨ad689, e689, hx689_0, hx689_1, hx689_2, hx689_3⟩ := at_T43 HR0.out x9_1 p689 q689
    cases e689
    replace hx689_0 := (HB.out.cell (World.block_lt_of_cell? w _ hx689_0)).trans hx689_0
    replace hx689_1 := (HB.out.cell (World.block_lt_of_cell? w _ hx689_1)).trans hx689_1
    replace hx689_2 := (HB.out.cell (World.block_lt_of_cell? w _ hx689_2)).trans hx689_2
    replace hx689_3 := (HB.out.cell (World.block_lt_of_cell? w _ hx689_3)).trans hx689_3
    replace p689 := eq_true p689
    replace q689 := eq_true q689
    go_wp2_with (first | ((with_reducible refine gate_dst (N := 6) rfl ?_); (try (refine gate_guard (by rfl) ?_; dsimp only)); refine box_event ?hg (N := 6) ?hd (cs := #[.string (⟨#[]⟩ : ByteArray), .int .u16 0, .int .u32 0, .string (⟨#[]⟩ : ByteArray)]) (t := 43) ?hr ?_; (case hd => rfl); (case hg => rfl); (case hr => first | (go_simp; done) | (go_simp; rfl)); intro gb690 hg w38 hbox hb; have n0_ := Aside0.mk (Kd.R_below (Kd.R_elderB (by (with_reducible repeat (first | apply Kd.R_alloc | apply Kd.R_drewN | apply Kd.R_drew)); exact HO_4.out) gb690 (Nat.le_of_eq hg.symm)) hb); have n1_ := Aside0.mk (blk_below (g := gb688) (o := .cells #[.int .i64 x689000_1, .string x689001_1, .bool x689002_1, .slice none 0 0] 28 (0, 0)) (by (with_reducible repeat (first | refine blk_drewN ?_ _ | refine blk_drew ?_ | refine blk_alloc ?_ _)); exact BK688.out) hb); have n2_ := Aside0.mk (below_step (by repeat (first | (with_reducible first | exact HB.out | apply below_alloc | apply pw_below_drewN | apply below_drew1 | refine below_set ?_ GE688.out) | exact HB.out)) hb); have n3_ := Aside0.mk (hbox); have n4_ := Aside0.mk ((by rw [hg]; exact (below_size (by repeat (first | (with_reducible first | exact HB.out | apply below_alloc | apply pw_below_drewN | apply below_drew1 | refine below_set ?_ GE688.out) | exact HB.out))) : w.heap.size ≤ gb690)); have n5_ := Aside0.mk ((by rw [hg]; exact (below_size (by repeat (first | (with_reducible first | exact HB.out | apply below_alloc | apply pw_below_drewN | apply below_drew1 | refine below_set ?_ GE688.out) | exact HB.out))) : w.heap.size ≤ gb690)); have n6_ := Aside0.mk ((by rw [hg]; exact Nat.ne_of_lt (blk_lt (g := gb688) (o := .cells #[.int .i64 x689000_1, .string x689001_1, .bool x689002_1, .slice none 0 0] 28 (0, 0)) (by (with_reducible repeat (first | refine blk_drewN ?_ _ | refine blk_drew ?_ | refine blk_alloc ?_ _)); exact BK688.out)) : gb688 ≠ gb690)); have n7_ := Aside0.mk ((by rw [hg]; exact Nat.ne_of_gt (blk_lt (g := gb688) (o := .cells #[.int .i64 x689000_1, .string x689001_1, .bool x689002_1, .slice none 0 0] 28 (0, 0)) (by (with_reducible repeat (first | refine blk_drewN ?_ _ | refine blk_drew ?_ | refine blk_alloc ?_ _)); exact BK688.out)) : gb690 ≠ gb688)); clear HO_4; clear BK688; clear HB; have HO_4 := n0_; have BK688 := n1_; have HB := n2_; have BK690 := n3_; have GW690 := n4_; have GE690 := n5_; have NB688_690 := n6_; have NB690_688 := n7_; clear n0_ n1_ n2_ n3_ n4_ n5_ n6_ n7_; clear hb hbox hg; have hnb39 := NB690_688.out; have hnc39 := NB688_690.out; have hcz40_0 : w38.cell? ⟨gb690, 0, none⟩ = some (.string (⟨#[]⟩ : ByteArray)) := (blk_cell BK690.out 0).trans rfl; have hcz40_1 : w38.cell? ⟨gb690, 1, none⟩ = some (.int .u16 0) := (blk_cell BK690.out 1).trans rfl; have hcz40_2 : w38.cell? ⟨gb690, 2, none⟩ = some (.int .u32 0) := (blk_cell BK690.out 2).trans rfl; have hcz40_3 : w38.cell? ⟨gb690, 3, none⟩ = some (.string (⟨#[]⟩ : ByteArray)) := (blk_cell BK690.out 3).trans rfl; have hfz40_0 := blk_frozen BK690.out 0; have hfz40_1 := blk_frozen BK690.out 1; have hfz40_2 := blk_frozen BK690.out 2; have hfz40_3 := blk_frozen BK690.out 3) | ((with_reducible refine gate_builtin (b := .append) (xs := #[.tmp 32, .tmp 34]) rfl ?_); (try (refine gate_guard (by rfl) ?_; dsimp only)); at_builtin; refine Kd.R_append k43 (w0 := w) w.heap.size rfl (.tmp 32) (.tmp 34) 26 43 (.agg #[(.string ⟨#[]⟩), (.int .u16 0), (.int .u32 0), (.string ⟨#[]⟩)]) 40 rfl Try.underlying26 info43 rfl (by decide) (by omega) u4 x4_1 (⟨(rd_T43 l0 x9_1).f0, (rd_T43 l0 x9_1).f1, (rd_T43 l0 x9_1).f2, (rd_T43 l0 x9_1).f3⟩ : S43) [.string ((rd_T43 l0 x9_1).f0), .int .u16 ((rd_T43 l0 x9_1).f1), .int .u32 ((rd_T43 l0 x9_1).f2), .string ((rd_T43 l0 x9_1).f3)] (fun k_ => k_ ≠ gb690) (fun _ => False) rfl (by first | (go_simp; done) | (go_simp; rfl)) ?aP (fun _ hk => hk.elim) ?aF ?aO ?aB ?aS ?aL ?_; (case aP => exact k43_mkM _ _ _ (⟨(rd_T43 l0 x9_1).f0, (rd_T43 l0 x9_1).f1, (rd_T43 l0 x9_1).f2, (rd_T43 l0 x9_1).f3⟩ : S43)); (case aB => exact (by repeat (first | (with_reducible first | exact HB.out | apply below_alloc | apply pw_below_drewN | apply below_drew1 | refine below_set ?_ GE688.out | refine below_set ?_ GE690.out) | exact HB.out))); (case aF => exact (fun k_ hk => Kd.freshB (g := gb690) (o := .cells #[.string ((rd_T43 l0 x9_1).f0), .int .u16 ((rd_T43 l0 x9_1).f1), .int .u32 ((rd_T43 l0 x9_1).f2), .string ((rd_T43 l0 x9_1).f3)] 43 (0, 0)) (by (with_reducible repeat (first | refine blk_drewN ?_ _ | refine blk_drew ?_ | refine blk_alloc ?_ _)); refine blk_put (cs := #[.string ((rd_T43 l0 x9_1).f0), .int .u16 ((rd_T43 l0 x9_1).f1), .int .u32 ((rd_T43 l0 x9_1).f2), .string (⟨#[]⟩ : ByteArray)]) ?_ 3 _ rfl; (with_reducible repeat (first | refine blk_drewN ?_ _ | refine blk_drew ?_ | refine blk_alloc ?_ _)); refine blk_put (cs := #[.string ((rd_T43 l0 x9_1).f0), .int .u16 ((rd_T43 l0 x9_1).f1), .int .u32 0, .string (⟨#[]⟩ : ByteArray)]) ?_ 2 _ rfl; (with_reducible repeat (first | refine blk_drewN ?_ _ | refine blk_drew ?_ | refine blk_alloc ?_ _)); refine blk_put (cs := #[.string ((rd_T43 l0 x9_1).f0), .int .u16 0, .int .u32 0, .string (⟨#[]⟩ : ByteArray)]) ?_ 1 _ rfl; (with_reducible repeat (first | refine blk_drewN ?_ _ | refine blk_drew ?_ | refine blk_alloc ?_ _)); refine blk_put (cs := #[.string (⟨#[]⟩ : ByteArray), .int .u16 0, .int .u32 0, .string (⟨#[]⟩ : ByteArray)]) ?_ 0 _ rfl; (with_reducible repeat (first | refine blk_drewN ?_ _ | refine blk_drew ?_ | refine blk_alloc ?_ _)); exact BK690.out) k_ hk)); (case aO => exact (by (with_reducible repeat (first | apply Kd.R_alloc | apply Kd.R_drewN | apply Kd.R_drew)); exact Kd.R_mono (Kd.R_far (p := ⟨gb690, 3, none⟩) (Kd.R_far (p := ⟨gb690, 2, none⟩) (Kd.R_far (p := ⟨gb690, 1, none⟩) (Kd.R_far (p := ⟨gb690, 0, none⟩) (Kd.R_mono HO_4.out (fun k_ hk => (⟨hk, hk.2⟩ : _ ∧ k_ ≠ gb690))) (fun _ hk => hk.2) (.string ((rd_T43 l0 x9_1).f0))) (fun _ hk => hk.2) (.int .u16 ((rd_T43 l0 x9_1).f1))) (fun _ hk => hk.2) (.int .u32 ((rd_T43 l0 x9_1).f2))) (fun _ hk => hk.2) (.string ((rd_T43 l0 x9_1).f3))) (fun _ hk => hk.1.2))); (case aS => exact (below_size (by repeat (first | (with_reducible first | exact HB.out | apply below_alloc | apply pw_below_drewN | apply below_drew1 | refine below_set ?_ GE688.out | refine below_set ?_ GE690.out) | exact HB.out)))); (case aL => have := LMc37.out; omega); intro v695 w41 ho hb hg hat; rw [← Ny694.out] at ho; have n0_ := Aside0.mk (blk_grown (g := gb688) (o := .cells #[.int .i64 x689000_1, .string x689001_1, .bool x689002_1, .slice none 0 0] 28 (0, 0)) (by (with_reducible repeat (first | refine blk_drewN ?_ _ | refine blk_drew ?_ | refine blk_alloc ?_ _)); refine blk_far ?_ NB688_690.out _; (with_reducible repeat (first | refine blk_drewN ?_ _ | refine blk_drew ?_ | refine blk_alloc ?_ _)); refine blk_far ?_ NB688_690.out _; (with_reducible repeat (first | refine blk_drewN ?_ _ | refine blk_drew ?_ | refine blk_alloc ?_ _)); refine blk_far ?_ NB688_690.out _; (with_reducible repeat (first | refine blk_drewN ?_ _ | refine blk_drew ?_ | refine blk_alloc ?_ _)); refine blk_far ?_ NB688_690.out _; (with_reducible repeat (first | refine blk_drewN ?_ _ | refine blk_drew ?_ | refine blk_alloc ?_ _)); exact BK688.out) hg (Kd.R_ne HO_4.out BK688.out (by decide))); have n1_ := Aside0.mk (blk_grown (g := gb690) (o := .cells #[.string ((rd_T43 l0 x9_1).f0), .int .u16 ((rd_T43 l0 x9_1).f1), .int .u32 ((rd_T43 l0 x9_1).f2), .string ((rd_T43 l0 x9_1).f3)] 43 (0, 0)) (by (with_reducible repeat (first | refine blk_drewN ?_ _ | refine blk_drew ?_ | refine blk_alloc ?_ _)); refine blk_put (cs := #[.string ((rd_T43 l0 x9_1).f0), .int .u16 ((rd_T43 l0 x9_1).f1), .int .u32 ((rd_T43 l0 x9_1).f2), .string (⟨#[]⟩ : ByteArray)]) ?_ 3 _ rfl; (with_reducible repeat (first | refine blk_drewN ?_ _ | refine blk_drew ?_ | refine blk_alloc ?_ _)); refine blk_put (cs := #[.string ((rd_T43 l0 x9_1).f0), .int .u16 ((rd_T43 l0 x9_1).f1), .int .u32 0, .string (⟨#[]⟩ : ByteArray)]) ?_ 2 _ rfl; (with_reducible repeat (first | refine blk_drewN ?_ _ | refine blk_drew ?_ | refine blk_alloc ?_ _)); refine blk_put (cs := #[.string ((rd_T43 l0 x9_1).f0), .int .u16 0, .int .u32 0, .string (⟨#[]⟩ : ByteArray)]) ?_ 1 _ rfl; (with_reducible repeat (first | refine blk_drewN ?_ _ | refine blk_drew ?_ | refine blk_alloc ?_ _)); refine blk_put (cs := #[.string (⟨#[]⟩ : ByteArray), .int .u16 0, .int .u32 0, .string (⟨#[]⟩ : ByteArray)]) ?_ 0 _ rfl; (with_reducible repeat (first | refine blk_drewN ?_ _ | refine blk_drew ?_ | refine blk_alloc ?_ _)); exact BK690.out) hg (Kd.R_away HO_4.out (fun _ hk => hk.2))); have n2_ := Aside0.mk (hb); have n3_ := Aside0.mk (ho); clear BK688; clear BK690; clear HB; clear HO_4; have BK688 := n0_; have BK690 := n1_; have HB := n2_; have HO696 := n3_; clear n0_ n1_ n2_ n3_; clear ho hb hg hat))
    go_roundg k1
    case measure => have := HK1.out; omega
    case rel => exact ⟨(y694), (wrap64 (x9_1 + 1)), (x689000_1), (x689001_1), (x689002_1), (by first | rfl | (simp; done) | (simp [*]; done)), H', ⟨by have := HK1.out; omega⟩, ⟨by (with_reducible repeat (first | apply Kd.R_alloc | apply Kd.R_drewN | apply Kd.R_drew)); exact Kd.R_mono HO696.out (fun _ hk => trivial)⟩, ⟨by (with_reducible repeat (first | refine blk_drewN ?_ _ | refine blk_drew ?_ | refine blk_alloc ?_ _)); exact BK688.out⟩, ⟨by repeat (first | (with_reducible first | exact HB.out | apply below_alloc | apply pw_below_drewN | apply below_drew1 | refine below_set ?_ GE688.out | refine below_set ?_ GE690.out) | exact HB.out)⟩⟩
   rw [if_pos c6] at H
   have c6b0 : (((rd_T43 l0 x9_1).f1) == 5) = true := beq_iff_eq.mpr c6
   have c6b1 : (((rd_T43 l0 x9_1).f1) != 5) = false := bne_eq_false_iff_eq.mpr c6
   clear c6
   by_cases c7 : (l0.length : Int) > 1
   ·rw [if_pos c7] at H
    have c7b0 : decide (1 < (l0.length : Int)) = true := decide_eq_true c7
    have c7b1 : decide (1 < l0.length) = true := decide_eq_true (by omega)
    clear c7
    simp only [Option.some.injEq, Prod.mk.injEq] at H
    obtain ⟨rfl, rfl, rfl, rfl, rfl⟩ := H
    have p689 : 0 ≤ (x9_1 : Int) := of_decide_eq_true (by first | (with_reducible assumption) | assumption)
    have q689 : x9_1 < (l0.length : Int) := of_decide_eq_true (by first | (with_reducible assumption) | assumption)
    obtain ⟨ad689, e689, hx689_0, hx689_1, hx689_2, hx689_3⟩ := at_T43 HR0.out x9_1 p689 q689
    cases e689
    replace hx689_0 := (HB.out.cell (World.block_lt_of_cell? w _ hx689_0)).trans hx689_0
    replace hx689_1 := (HB.out.cell (World.block_lt_of_cell? w _ hx689_1)).trans hx689_1
    replace hx689_2 := (HB.out.cell (World.block_lt_of_cell? w _ hx689_2)).trans hx689_2
    replace hx689_3 := (HB.out.cell (World.block_lt_of_cell? w _ hx689_3)).trans hx689_3
    replace p689 := eq_true p689
    replace q689 := eq_true q689
    go_wp2_with (first | ((with_reducible refine gate_dst (N := 6) rfl ?_); (try (refine gate_guard (by rfl) ?_; dsimp only)); refine box_event ?hg (N := 6) ?hd (cs := #[.string (⟨#[]⟩ : ByteArray), .int .u16 0, .int .u32 0, .string (⟨#[]⟩ : ByteArray)]) (t := 43) ?hr ?_; (case hd => rfl); (case hg => rfl); (case hr => first | (go_simp; done) | (go_simp; rfl)); intro gb690 hg w8 hbox hb; have n0_ := Aside0.mk (Kd.R_below (Kd.R_elderB (by (with_reducible repeat (first | apply Kd.R_alloc | apply Kd.R_drewN | apply Kd.R_drew)); exact HO_4.out) gb690 (Nat.le_of_eq hg.symm)) hb); have n1_ := Aside0.mk (blk_below (g := gb688) (o := .cells #[.int .i64 x689000_1, .string x689001_1, .bool x689002_1, .slice none 0 0] 28 (0, 0)) (by (with_reducible repeat (first | refine blk_drewN ?_ _ | refine blk_drew ?_ | refine blk_alloc ?_ _)); exact BK688.out) hb); have n2_ := Aside0.mk (below_step (by repeat (first | (with_reducible first | exact HB.out | apply below_alloc | apply pw_below_drewN | apply below_drew1 | refine below_set ?_ GE688.out) | exact HB.out)) hb); have n3_ := Aside0.mk (hbox); have n4_ := Aside0.mk ((by rw [hg]; exact (below_size (by repeat (first | (with_reducible first | exact HB.out | apply below_alloc | apply pw_below_drewN | apply below_drew1 | refine below_set ?_ GE688.out) | exact HB.out))) : w.heap.size ≤ gb690)); have n5_ := Aside0.mk ((by rw [hg]; exact (below_size (by repeat (first | (with_reducible first | exact HB.out | apply below_alloc | apply pw_below_drewN | apply below_drew1 | refine below_set ?_ GE688.out) | exact HB.out))) : w.heap.size ≤ gb690)); have n6_ := Aside0.mk ((by rw [hg]; exact Nat.ne_of_lt (blk_lt (g := gb688) (o := .cells #[.int .i64 x689000_1, .string x689001_1, .bool x689002_1, .slice none 0 0] 28 (0, 0)) (by (with_reducible repeat (first | refine blk_drewN ?_ _ | refine blk_drew ?_ | refine blk_alloc ?_ _)); exact BK688.out)) : gb688 ≠ gb690)); have n7_ := Aside0.mk ((by rw [hg]; exact Nat.ne_of_gt (blk_lt (g := gb688) (o := .cells #[.int .i64 x689000_1, .string x689001_1, .bool x689002_1, .slice none 0 0] 28 (0, 0)) (by (with_reducible repeat (first | refine blk_drewN ?_ _ | refine blk_drew ?_ | refine blk_alloc ?_ _)); exact BK688.out)) : gb690 ≠ gb688)); clear HO_4; clear BK688; clear HB; have HO_4 := n0_; have BK688 := n1_; have HB := n2_; have BK690 := n3_; have GW690 := n4_; have GE690 := n5_; have NB688_690 := n6_; have NB690_688 := n7_; clear n0_ n1_ n2_ n3_ n4_ n5_ n6_ n7_; clear hb hbox hg; have hnb9 := NB690_688.out; have hnc9 := NB688_690.out; have hcz10_0 : w8.cell? ⟨gb690, 0, none⟩ = some (.string (⟨#[]⟩ : ByteArray)) := (blk_cell BK690.out 0).trans rfl; have hcz10_1 : w8.cell? ⟨gb690, 1, none⟩ = some (.int .u16 0) := (blk_cell BK690.out 1).trans rfl; have hcz10_2 : w8.cell? ⟨gb690, 2, none⟩ = some (.int .u32 0) := (blk_cell BK690.out 2).trans rfl; have hcz10_3 : w8.cell? ⟨gb690, 3, none⟩ = some (.string (⟨#[]⟩ : ByteArray)) := (blk_cell BK690.out 3).trans rfl; have hfz10_0 := blk_frozen BK690.out 0; have hfz10_1 := blk_frozen BK690.out 1; have hfz10_2 := blk_frozen BK690.out 2; have hfz10_3 := blk_frozen BK690.out 3; have hcz11_0 : w8.cell? ⟨gb688, 0, none⟩ = some (.int .i64 x689000_1) := (blk_cell BK688.out 0).trans rfl; have hcz11_1 : w8.cell? ⟨gb688, 1, none⟩ = some (.string x689001_1) := (blk_cell BK688.out 1).trans rfl; have hcz11_2 : w8.cell? ⟨gb688, 2, none⟩ = some (.bool x689002_1) := (blk_cell BK688.out 2).trans rfl; have hcz11_3 : w8.cell? ⟨gb688, 3, none⟩ = some (.slice none 0 0) := (blk_cell BK688.out 3).trans rfl; have hfz11_0 := blk_frozen BK688.out 0; have hfz11_1 := blk_frozen BK688.out 1; have hfz11_2 := blk_frozen BK688.out 2; have hfz11_3 := blk_frozen BK688.out 3))
    refine bodyPost_ret (results_ct rfl _ _ gb688 28 #[.int .i64 0, .string (⟨#[]⟩ : ByteArray), .bool false, .slice none 0 0] (0, 0) _ rfl (by (with_reducible repeat (first | refine blk_drewN ?_ _ | refine blk_drew ?_ | refine blk_alloc ?_ _)); refine blk_put (cs := #[.int .i64 0, .string (⟨#[]⟩ : ByteArray), .bool false, .slice none 0 0]) ?_ 3 _ rfl; (with_reducible repeat (first | refine blk_drewN ?_ _ | refine blk_drew ?_ | refine blk_alloc ?_ _)); refine blk_put (cs := #[.int .i64 0, .string (⟨#[]⟩ : ByteArray), .bool x689002_1, .slice none 0 0]) ?_ 2 _ rfl; (with_reducible repeat (first | refine blk_drewN ?_ _ | refine blk_drew ?_ | refine blk_alloc ?_ _)); refine blk_put (cs := #[.int .i64 0, .string x689001_1, .bool x689002_1, .slice none 0 0]) ?_ 1 _ rfl; (with_reducible repeat (first | refine blk_drewN ?_ _ | refine blk_drew ?_ | refine blk_alloc ?_ _)); refine blk_put (cs := #[.int .i64 x689000_1, .string x689001_1, .bool x689002_1, .slice none 0 0]) ?_ 0 _ rfl; (with_reducible repeat (first | refine blk_drewN ?_ _ | refine blk_drew ?_ | refine blk_alloc ?_ _)); refine blk_far ?_ NB688_690.out _; (with_reducible repeat (first | refine blk_drewN ?_ _ | refine blk_drew ?_ | refine blk_alloc ?_ _)); refine blk_far ?_ NB688_690.out _; (with_reducible repeat (first | refine blk_drewN ?_ _ | refine blk_drew ?_ | refine blk_alloc ?_ _)); refine blk_far ?_ NB688_690.out _; (with_reducible repeat (first | refine blk_drewN ?_ _ | refine blk_drew ?_ | refine blk_alloc ?_ _)); refine blk_far ?_ NB688_690.out _; (with_reducible repeat (first | refine blk_drewN ?_ _ | refine blk_drew ?_ | refine blk_alloc ?_ _)); exact BK688.out) Try.underlying28 rfl (by kernel_rfl)) rfl ?_
    exact ⟨_, by first | rfl | (simp [errW_none, errW_some] <;> rfl) | (simp [*, errW_none, errW_some] <;> rfl), by first | exact Kd.R_nil _ _ _ _ _ | exact Kd.N_nil _ _ _ _ _ | exact Kd.V_nil _ _ _ _ _ | exact Kd.Q_nil _ _ _ _ _ | exact Kd.S_nil _ _ _ _ _, by repeat (first | (with_reducible first | exact HB.out | apply below_alloc | apply pw_below_drewN | apply below_drew1 | refine below_set ?_ GE688.out | refine below_set ?_ GE690.out) | exact HB.out)⟩
   rw [if_neg c7] at H
   have c7b0 : decide (1 < (l0.length : Int)) = false := decide_eq_false c7
   have c7b1 : decide (1 < l0.length) = false := decide_eq_false (by omega)
   clear c7
   by_cases c12 : ((rd_T43 l0 x9_1).f1) = 6
   ·rw [if_pos c12] at H
    have c12b0 : (((rd_T43 l0 x9_1).f1) == 6) = true := beq_iff_eq.mpr c12
    have c12b1 : (((rd_T43 l0 x9_1).f1) != 6) = false := bne_eq_false_iff_eq.mpr c12
    clear c12
    simp only [Option.some.injEq, Prod.mk.injEq] at H
    obtain ⟨rfl, rfl, rfl, rfl, rfl⟩ := H
    have p689 : 0 ≤ (x9_1 : Int) := of_decide_eq_true (by first | (with_reducible assumption) | assumption)
    have q689 : x9_1 < (l0.length : Int) := of_decide_eq_true (by first | (with_reducible assumption) | assumption)
    obtain ⟨ad689, e689, hx689_0, hx689_1, hx689_2, hx689_3⟩ := at_T43 HR0.out x9_1 p689 q689
    cases e689
    replace hx689_0 := (HB.out.cell (World.block_lt_of_cell? w _ hx689_0)).trans hx689_0
    replace hx689_1 := (HB.out.cell (World.block_lt_of_cell? w _ hx689_1)).trans hx689_1
    replace hx689_2 := (HB.out.cell (World.block_lt_of_cell? w _ hx689_2)).trans hx689_2
    replace hx689_3 := (HB.out.cell (World.block_lt_of_cell? w _ hx689_3)).trans hx689_3
    replace p689 := eq_true p689
    replace q689 := eq_true q689
    go_wp2_with (first | ((with_reducible refine gate_dst (N := 6) rfl ?_); (try (refine gate_guard (by rfl) ?_; dsimp only)); refine box_event ?hg (N := 6) ?hd (cs := #[.string (⟨#[]⟩ : ByteArray), .int .u16 0, .int .u32 0, .string (⟨#[]⟩ : ByteArray)]) (t := 43) ?hr ?_; (case hd => rfl); (case hg => rfl); (case hr => first | (go_simp; done) | (go_simp; rfl)); intro gb690 hg w13 hbox hb; have n0_ := Aside0.mk (Kd.R_below (Kd.R_elderB (by (with_reducible repeat (first | apply Kd.R_alloc | apply Kd.R_drewN | apply Kd.R_drew)); exact HO_4.out) gb690 (Nat.le_of_eq hg.symm)) hb); have n1_ := Aside0.mk (blk_below (g := gb688) (o := .cells #[.int .i64 x689000_1, .string x689001_1, .bool x689002_1, .slice none 0 0] 28 (0, 0)) (by (with_reducible repeat (first | refine blk_drewN ?_ _ | refine blk_drew ?_ | refine blk_alloc ?_ _)); exact BK688.out) hb); have n2_ := Aside0.mk (below_step (by repeat (first | (with_reducible first | exact HB.out | apply below_alloc | apply pw_below_drewN | apply below_drew1 | refine below_set ?_ GE688.out) | exact HB.out)) hb); have n3_ := Aside0.mk (hbox); have n4_ := Aside0.mk ((by rw [hg]; exact (below_size (by repeat (first | (with_reducible first | exact HB.out | apply below_alloc | apply pw_below_drewN | apply below_drew1 | refine below_set ?_ GE688.out) | exact HB.out))) : w.heap.size ≤ gb690)); have n5_ := Aside0.mk ((by rw [hg]; exact (below_size (by repeat (first | (with_reducible first | exact HB.out | apply below_alloc | apply pw_below_drewN | apply below_drew1 | refine below_set ?_ GE688.out) | exact HB.out))) : w.heap.size ≤ gb690)); have n6_ := Aside0.mk ((by rw [hg]; exact Nat.ne_of_lt (blk_lt (g := gb688) (o := .cells #[.int .i64 x689000_1, .string x689001_1, .bool x689002_1, .slice none 0 0] 28 (0, 0)) (by (with_reducible repeat (first | refine blk_drewN ?_ _ | refine blk_drew ?_ | refine blk_alloc ?_ _)); exact BK688.out)) : gb688 ≠ gb690)); have n7_ := Aside0.mk ((by rw [hg]; exact Nat.ne_of_gt (blk_lt (g := gb688) (o := .cells #[.int .i64 x689000_1, .string x689001_1, .bool x689002_1, .slice none 0 0] 28 (0, 0)) (by (with_reducible repeat (first | refine blk_drewN ?_ _ | refine blk_drew ?_ | refine blk_alloc ?_ _)); exact BK688.out)) : gb690 ≠ gb688)); clear HO_4; clear BK688; clear HB; have HO_4 := n0_; have BK688 := n1_; have HB := n2_; have BK690 := n3_; have GW690 := n4_; have GE690 := n5_; have NB688_690 := n6_; have NB690_688 := n7_; clear n0_ n1_ n2_ n3_ n4_ n5_ n6_ n7_; clear hb hbox hg; have hnb14 := NB690_688.out; have hnc14 := NB688_690.out; have hcz15_0 : w13.cell? ⟨gb690, 0, none⟩ = some (.string (⟨#[]⟩ : ByteArray)) := (blk_cell BK690.out 0).trans rfl; have hcz15_1 : w13.cell? ⟨gb690, 1, none⟩ = some (.int .u16 0) := (blk_cell BK690.out 1).trans rfl; have hcz15_2 : w13.cell? ⟨gb690, 2, none⟩ = some (.int .u32 0) := (blk_cell BK690.out 2).trans rfl; have hcz15_3 : w13.cell? ⟨gb690, 3, none⟩ = some (.string (⟨#[]⟩ : ByteArray)) := (blk_cell BK690.out 3).trans rfl; have hfz15_0 := blk_frozen BK690.out 0; have hfz15_1 := blk_frozen BK690.out 1; have hfz15_2 := blk_frozen BK690.out 2; have hfz15_3 := blk_frozen BK690.out 3; have hcz16_0 : w13.cell? ⟨gb688, 0, none⟩ = some (.int .i64 x689000_1) := (blk_cell BK688.out 0).trans rfl; have hcz16_1 : w13.cell? ⟨gb688, 1, none⟩ = some (.string x689001_1) := (blk_cell BK688.out 1).trans rfl; have hcz16_2 : w13.cell? ⟨gb688, 2, none⟩ = some (.bool x689002_1) := (blk_cell BK688.out 2).trans rfl; have hcz16_3 : w13.cell? ⟨gb688, 3, none⟩ = some (.slice none 0 0) := (blk_cell BK688.out 3).trans rfl; have hfz16_0 := blk_frozen BK688.out 0; have hfz16_1 := blk_frozen BK688.out 1; have hfz16_2 := blk_frozen BK688.out 2; have hfz16_3 := blk_frozen BK688.out 3))
    refine bodyPost_ret (results_ct rfl _ _ gb688 28 #[.int .i64 0, .string (⟨#[]⟩ : ByteArray), .bool false, .slice none 0 0] (0, 0) _ rfl (by (with_reducible repeat (first | refine blk_drewN ?_ _ | refine blk_drew ?_ | refine blk_alloc ?_ _)); refine blk_put (cs := #[.int .i64 0, .string (⟨#[]⟩ : ByteArray), .bool false, .slice none 0 0]) ?_ 3 _ rfl; (with_reducible repeat (first | refine blk_drewN ?_ _ | refine blk_drew ?_ | refine blk_alloc ?_ _)); refine blk_put (cs := #[.int .i64 0, .string (⟨#[]⟩ : ByteArray), .bool x689002_1, .slice none 0 0]) ?_ 2 _ rfl; (with_reducible repeat (first | refine blk_drewN ?_ _ | refine blk_drew ?_ | refine blk_alloc ?_ _)); refine blk_put (cs := #[.int .i64 0, .string x689001_1, .bool x689002_1, .slice none 0 0]) ?_ 1 _ rfl; (with_reducible repeat (first | refine blk_drewN ?_ _ | refine blk_drew ?_ | refine blk_alloc ?_ _)); refine blk_put (cs := #[.int .i64 x689000_1, .string x689001_1, .bool x689002_1, .slice none 0 0]) ?_ 0 _ rfl; (with_reducible repeat (first | refine blk_drewN ?_ _ | refine blk_drew ?_ | refine blk_alloc ?_ _)); refine blk_far ?_ NB688_690.out _; (with_reducible repeat (first | refine blk_drewN ?_ _ | refine blk_drew ?_ | refine blk_alloc ?_ _)); refine blk_far ?_ NB688_690.out _; (with_reducible repeat (first | refine blk_drewN ?_ _ | refine blk_drew ?_ | refine blk_alloc ?_ _)); refine blk_far ?_ NB688_690.out _; (with_reducible repeat (first | refine blk_drewN ?_ _ | refine blk_drew ?_ | refine blk_alloc ?_ _)); refine blk_far ?_ NB688_690.out _; (with_reducible repeat (first | refine blk_drewN ?_ _ | refine blk_drew ?_ | refine blk_alloc ?_ _)); exact BK688.out) Try.underlying28 rfl (by kernel_rfl)) rfl ?_
    exact ⟨_, by first | rfl | (simp [errW_none, errW_some] <;> rfl) | (simp [*, errW_none, errW_some] <;> rfl), by first | exact Kd.R_nil _ _ _ _ _ | exact Kd.N_nil _ _ _ _ _ | exact Kd.V_nil _ _ _ _ _ | exact Kd.Q_nil _ _ _ _ _ | exact Kd.S_nil _ _ _ _ _, by repeat (first | (with_reducible first | exact HB.out | apply below_alloc | apply pw_below_drewN | apply below_drew1 | refine below_set ?_ GE688.out | refine below_set ?_ GE690.out) | exact HB.out)⟩
   rw [if_neg c12] at H
   have c12b0 : (((rd_T43 l0 x9_1).f1) == 6) = false := beq_eq_false_iff_ne.mpr c12
   have c12b1 : (((rd_T43 l0 x9_1).f1) != 6) = true := bne_iff_ne.mpr c12
   by_cases c17 : ((rd_T43 l0 x9_1).f1) = 2
   ·rw [if_pos c17] at H
    have c17b0 : (((rd_T43 l0 x9_1).f1) == 2) = true := beq_iff_eq.mpr c17
    have c17b1 : (((rd_T43 l0 x9_1).f1) != 2) = false := bne_eq_false_iff_eq.mpr c17
    clear c17
    simp only [Option.some.injEq, Prod.mk.injEq] at H
    obtain ⟨rfl, rfl, rfl, rfl, rfl⟩ := H
    have p689 : 0 ≤ (x9_1 : Int) := of_decide_eq_true (by first | (with_reducible assumption) | assumption)
    have q689 : x9_1 < (l0.length : Int) := of_decide_eq_true (by first | (with_reducible assumption) | assumption)
    obtain ⟨ad689, e689, hx689_0, hx689_1, hx689_2, hx689_3⟩ := at_T43 HR0.out x9_1 p689 q689
    cases e689
    replace hx689_0 := (HB.out.cell (World.block_lt_of_cell? w _ hx689_0)).trans hx689_0
    replace hx689_1 := (HB.out.cell (World.block_lt_of_cell? w _ hx689_1)).trans hx689_1
    replace hx689_2 := (HB.out.cell (World.block_lt_of_cell? w _ hx689_2)).trans hx689_2
    replace hx689_3 := (HB.out.cell (World.block_lt_of_cell? w _ hx689_3)).trans hx689_3
    replace p689 := eq_true p689
    replace q689 := eq_true q689
    go_wp2_with (first | ((with_reducible refine gate_dst (N := 6) rfl ?_); (try (refine gate_guard (by rfl) ?_; dsimp only)); refine box_event ?hg (N := 6) ?hd (cs := #[.string (⟨#[]⟩ : ByteArray), .int .u16 0, .int .u32 0, .string (⟨#[]⟩ : ByteArray)]) (t := 43) ?hr ?_; (case hd => rfl); (case hg => rfl); (case hr => first | (go_simp; done) | (go_simp; rfl)); intro gb690 hg w18 hbox hb; have n0_ := Aside0.mk (Kd.R_below (Kd.R_elderB (by (with_reducible repeat (first | apply Kd.R_alloc | apply Kd.R_drewN | apply Kd.R_drew)); exact HO_4.out) gb690 (Nat.le_of_eq hg.symm)) hb); have n1_ := Aside0.mk (blk_below (g := gb688) (o := .cells #[.int .i64 x689000_1, .string x689001_1, .bool x689002_1, .slice none 0 0] 28 (0, 0)) (by (with_reducible repeat (first | refine blk_drewN ?_ _ | refine blk_drew ?_ | refine blk_alloc ?_ _)); exact BK688.out) hb); have n2_ := Aside0.mk (below_step (by repeat (first | (with_reducible first | exact HB.out | apply below_alloc | apply pw_below_drewN | apply below_drew1 | refine below_set ?_ GE688.out) | exact HB.out)) hb); have n3_ := Aside0.mk (hbox); have n4_ := Aside0.mk ((by rw [hg]; exact (below_size (by repeat (first | (with_reducible first | exact HB.out | apply below_alloc | apply pw_below_drewN | apply below_drew1 | refine below_set ?_ GE688.out) | exact HB.out))) : w.heap.size ≤ gb690)); have n5_ := Aside0.mk ((by rw [hg]; exact (below_size (by repeat (first | (with_reducible first | exact HB.out | apply below_alloc | apply pw_below_drewN | apply below_drew1 | refine below_set ?_ GE688.out) | exact HB.out))) : w.heap.size ≤ gb690)); have n6_ := Aside0.mk ((by rw [hg]; exact Nat.ne_of_lt (blk_lt (g := gb688) (o := .cells #[.int .i64 x689000_1, .string x689001_1, .bool x689002_1, .slice none 0 0] 28 (0, 0)) (by (with_reducible repeat (first | refine blk_drewN ?_ _ | refine blk_drew ?_ | refine blk_alloc ?_ _)); exact BK688.out)) : gb688 ≠ gb690)); have n7_ := Aside0.mk ((by rw [hg]; exact Nat.ne_of_gt (blk_lt (g := gb688) (o := .cells #[.int .i64 x689000_1, .string x689001_1, .bool x689002_1, .slice none 0 0] 28 (0, 0)) (by (with_reducible repeat (first | refine blk_drewN ?_ _ | refine blk_drew ?_ | refine blk_alloc ?_ _)); exact BK688.out)) : gb690 ≠ gb688)); clear HO_4; clear BK688; clear HB; have HO_4 := n0_; have BK688 := n1_; have HB := n2_; have BK690 := n3_; have GW690 := n4_; have GE690 := n5_; have NB688_690 := n6_; have NB690_688 := n7_; clear n0_ n1_ n2_ n3_ n4_ n5_ n6_ n7_; clear hb hbox hg; have hnb19 := NB690_688.out; have hnc19 := NB688_690.out; have hcz20_0 : w18.cell? ⟨gb690, 0, none⟩ = some (.string (⟨#[]⟩ : ByteArray)) := (blk_cell BK690.out 0).trans rfl; have hcz20_1 : w18.cell? ⟨gb690, 1, none⟩ = some (.int .u16 0) := (blk_cell BK690.out 1).trans rfl; have hcz20_2 : w18.cell? ⟨gb690, 2, none⟩ = some (.int .u32 0) := (blk_cell BK690.out 2).trans rfl; have hcz20_3 : w18.cell? ⟨gb690, 3, none⟩ = some (.string (⟨#[]⟩ : ByteArray)) := (blk_cell BK690.out 3).trans rfl; have hfz20_0 := blk_frozen BK690.out 0; have hfz20_1 := blk_frozen BK690.out 1; have hfz20_2 := blk_frozen BK690.out 2; have hfz20_3 := blk_frozen BK690.out 3; have hcz21_0 : w18.cell? ⟨gb688, 0, none⟩ = some (.int .i64 x689000_1) := (blk_cell BK688.out 0).trans rfl; have hcz21_1 : w18.cell? ⟨gb688, 1, none⟩ = some (.string x689001_1) := (blk_cell BK688.out 1).trans rfl; have hcz21_2 : w18.cell? ⟨gb688, 2, none⟩ = some (.bool x689002_1) := (blk_cell BK688.out 2).trans rfl; have hcz21_3 : w18.cell? ⟨gb688, 3, none⟩ = some (.slice none 0 0) := (blk_cell BK688.out 3).trans rfl; have hfz21_0 := blk_frozen BK688.out 0; have hfz21_1 := blk_frozen BK688.out 1; have hfz21_2 := blk_frozen BK688.out 2; have hfz21_3 := blk_frozen BK688.out 3))
    refine bodyPost_ret (results_ct rfl _ _ gb688 28 #[.int .i64 0, .string (⟨#[]⟩ : ByteArray), .bool false, .slice none 0 0] (0, 0) _ rfl (by (with_reducible repeat (first | refine blk_drewN ?_ _ | refine blk_drew ?_ | refine blk_alloc ?_ _)); refine blk_put (cs := #[.int .i64 0, .string (⟨#[]⟩ : ByteArray), .bool false, .slice none 0 0]) ?_ 3 _ rfl; (with_reducible repeat (first | refine blk_drewN ?_ _ | refine blk_drew ?_ | refine blk_alloc ?_ _)); refine blk_put (cs := #[.int .i64 0, .string (⟨#[]⟩ : ByteArray), .bool x689002_1, .slice none 0 0]) ?_ 2 _ rfl; (with_reducible repeat (first | refine blk_drewN ?_ _ | refine blk_drew ?_ | refine blk_alloc ?_ _)); refine blk_put (cs := #[.int .i64 0, .string x689001_1, .bool x689002_1, .slice none 0 0]) ?_ 1 _ rfl; (with_reducible repeat (first | refine blk_drewN ?_ _ | refine blk_drew ?_ | refine blk_alloc ?_ _)); refine blk_put (cs := #[.int .i64 x689000_1, .string x689001_1, .bool x689002_1, .slice none 0 0]) ?_ 0 _ rfl; (with_reducible repeat (first | refine blk_drewN ?_ _ | refine blk_drew ?_ | refine blk_alloc ?_ _)); refine blk_far ?_ NB688_690.out _; (with_reducible repeat (first | refine blk_drewN ?_ _ | refine blk_drew ?_ | refine blk_alloc ?_ _)); refine blk_far ?_ NB688_690.out _; (with_reducible repeat (first | refine blk_drewN ?_ _ | refine blk_drew ?_ | refine blk_alloc ?_ _)); refine blk_far ?_ NB688_690.out _; (with_reducible repeat (first | refine blk_drewN ?_ _ | refine blk_drew ?_ | refine blk_alloc ?_ _)); refine blk_far ?_ NB688_690.out _; (with_reducible repeat (first | refine blk_drewN ?_ _ | refine blk_drew ?_ | refine blk_alloc ?_ _)); exact BK688.out) Try.underlying28 rfl (by kernel_rfl)) rfl ?_
    exact ⟨_, by first | rfl | (simp [errW_none, errW_some] <;> rfl) | (simp [*, errW_none, errW_some] <;> rfl), by first | exact Kd.R_nil _ _ _ _ _ | exact Kd.N_nil _ _ _ _ _ | exact Kd.V_nil _ _ _ _ _ | exact Kd.Q_nil _ _ _ _ _ | exact Kd.S_nil _ _ _ _ _, by repeat (first | (with_reducible first | exact HB.out | apply below_alloc | apply pw_below_drewN | apply below_drew1 | refine below_set ?_ GE688.out | refine below_set ?_ GE690.out) | exact HB.out)⟩
   rw [if_neg c17] at H
   have c17b0 : (((rd_T43 l0 x9_1).f1) == 2) = false := beq_eq_false_iff_ne.mpr c17
   have c17b1 : (((rd_T43 l0 x9_1).f1) != 2) = true := bne_iff_ne.mpr c17
   by_cases c22 : x4_1.length < 3518437208883
   rotate_left
   ·rw [if_neg c22] at H
    exact absurd H (by simp)
   rw [if_pos c22] at H
   have LMc22 := Aside0.mk c22
   clear c22
   obtain ⟨y691, hy691⟩ : ∃ y_ : List (S43), y_ = (x4_1 ++ [(⟨(rd_T43 l0 x9_1).f0, (rd_T43 l0 x9_1).f1, (rd_T43 l0 x9_1).f2, (rd_T43 l0 x9_1).f3⟩ : S43)]) := ⟨_, rfl⟩
   replace H : (action_Of.l0 k1 l0 y691 l0 (l0.length : Int) (wrap64 (x9_1 + 1))) = some (r1, r2, r3, r4, r5) := by first | (rw [hy691]; with_reducible exact H) | (have H2_ := (Option.bind_some _ _).symm.trans H; rw [hy691]; with_reducible exact H2_) | (have H2_ := (Option.bind_some _ _).symm.trans H; with_reducible exact H2_) | with_reducible exact H | (rw [hy691]; exact H) | exact H
   have Ny691 := Aside0.mk hy691
   clear hy691
   have H' := Aside0.mk H
   clear H
   have p689 : 0 ≤ (x9_1 : Int) := of_decide_eq_true (by first | (with_reducible assumption) | assumption)
   have q689 : x9_1 < (l0.length : Int) := of_decide_eq_true (by first | (with_reducible assumption) | assumption)
   obtain ⟨ad689, e689, hx689_0, hx689_1, hx689_2, hx689_3⟩ := at_T43 HR0.out x9_1 p689 q689
   cases e689
   replace hx689_0 := (HB.out.cell (World.block_lt_of_cell? w _ hx689_0)).trans hx689_0
   replace hx689_1 := (HB.out.cell (World.block_lt_of_cell? w _ hx689_1)).trans hx689_1
   replace hx689_2 := (HB.out.cell (World.block_lt_of_cell? w _ hx689_2)).trans hx689_2
   replace hx689_3 := (HB.out.cell (World.block_lt_of_cell? w _ hx689_3)).trans hx689_3
   replace p689 := eq_true p689
   replace q689 := eq_true q689
   go_wp2_with (first | ((with_reducible refine gate_dst (N := 6) rfl ?_); (try (refine gate_guard (by rfl) ?_; dsimp only)); refine box_event ?hg (N := 6) ?hd (cs := #[.string (⟨#[]⟩ : ByteArray), .int .u16 0, .int .u32 0, .string (⟨#[]⟩ : ByteArray)]) (t := 43) ?hr ?_; (case hd => rfl); (case hg => rfl); (case hr => first | (go_simp; done) | (go_simp; rfl)); intro gb690 hg w23 hbox hb; have n0_ := Aside0.mk (Kd.R_below (Kd.R_elderB (by (with_reducible repeat (first | apply Kd.R_alloc | apply Kd.R_drewN | apply Kd.R_drew)); exact HO_4.out) gb690 (Nat.le_of_eq hg.symm)) hb); have n1_ := Aside0.mk (blk_below (g := gb688) (o := .cells #[.int .i64 x689000_1, .string x689001_1, .bool x689002_1, .slice none 0 0] 28 (0, 0)) (by (with_reducible repeat (first | refine blk_drewN ?_ _ | refine blk_drew ?_ | refine blk_alloc ?_ _)); exact BK688.out) hb); have n2_ := Aside0.mk (below_step (by repeat (first | (with_reducible first | exact HB.out | apply below_alloc | apply pw_below_drewN | apply below_drew1 | refine below_set ?_ GE688.out) | exact HB.out)) hb); have n3_ := Aside0.mk (hbox); have n4_ := Aside0.mk ((by rw [hg]; exact (below_size (by repeat (first | (with_reducible first | exact HB.out | apply below_alloc | apply pw_below_drewN | apply below_drew1 | refine below_set ?_ GE688.out) | exact HB.out))) : w.heap.size ≤ gb690)); have n5_ := Aside0.mk ((by rw [hg]; exact (below_size (by repeat (first | (with_reducible first | exact HB.out | apply below_alloc | apply pw_below_drewN | apply below_drew1 | refine below_set ?_ GE688.out) | exact HB.out))) : w.heap.size ≤ gb690)); have n6_ := Aside0.mk ((by rw [hg]; exact Nat.ne_of_lt (blk_lt (g := gb688) (o := .cells #[.int .i64 x689000_1, .string x689001_1, .bool x689002_1, .slice none 0 0] 28 (0, 0)) (by (with_reducible repeat (first | refine blk_drewN ?_ _ | refine blk_drew ?_ | refine blk_alloc ?_ _)); exact BK688.out)) : gb688 ≠ gb690)); have n7_ := Aside0.mk ((by rw [hg]; exact Nat.ne_of_gt (blk_lt (g := gb688) (o := .cells #[.int .i64 x689000_1, .string x689001_1, .bool x689002_1, .slice none 0 0] 28 (0, 0)) (by (with_reducible repeat (first | refine blk_drewN ?_ _ | refine blk_drew ?_ | refine blk_alloc ?_ _)); exact BK688.out)) : gb690 ≠ gb688)); clear HO_4; clear BK688; clear HB; have HO_4 := n0_; have BK688 := n1_; have HB := n2_; have BK690 := n3_; have GW690 := n4_; have GE690 := n5_; have NB688_690 := n6_; have NB690_688 := n7_; clear n0_ n1_ n2_ n3_ n4_ n5_ n6_ n7_; clear hb hbox hg; have hnb24 := NB690_688.out; have hnc24 := NB688_690.out; have hcz25_0 : w23.cell? ⟨gb690, 0, none⟩ = some (.string (⟨#[]⟩ : ByteArray)) := (blk_cell BK690.out 0).trans rfl; have hcz25_1 : w23.cell? ⟨gb690, 1, none⟩ = some (.int .u16 0) := (blk_cell BK690.out 1).trans rfl; have hcz25_2 : w23.cell? ⟨gb690, 2, none⟩ = some (.int .u32 0) := (blk_cell BK690.out 2).trans rfl; have hcz25_3 : w23.cell? ⟨gb690, 3, none⟩ = some (.string (⟨#[]⟩ : ByteArray)) := (blk_cell BK690.out 3).trans rfl; have hfz25_0 := blk_frozen BK690.out 0; have hfz25_1 := blk_frozen BK690.out 1; have hfz25_2 := blk_frozen BK690.out 2; have hfz25_3 := blk_frozen BK690.out 3) | ((with_reducible refine gate_builtin (b := .append) (xs := #[.tmp 32, .tmp 34]) rfl ?_); (try (refine gate_guard (by rfl) ?_; dsimp only)); at_builtin; refine Kd.R_append k43 (w0 := w) w.heap.size rfl (.tmp 32) (.tmp 34) 26 43 (.agg #[(.string ⟨#[]⟩), (.int .u16 0), (.int .u32 0), (.string ⟨#[]⟩)]) 40 rfl Try.underlying26 info43 rfl (by decide) (by omega) u4 x4_1 (⟨(rd_T43 l0 x9_1).f0, (rd_T43 l0 x9_1).f1, (rd_T43 l0 x9_1).f2, (rd_T43 l0 x9_1).f3⟩ : S43) [.string ((rd_T43 l0 x9_1).f0), .int .u16 ((rd_T43 l0 x9_1).f1), .int .u32 ((rd_T43 l0 x9_1).f2), .string ((rd_T43 l0 x9_1).f3)] (fun k_ => k_ ≠ gb690) (fun _ => False) rfl (by first | (go_simp; done) | (go_simp; rfl)) ?aP (fun _ hk => hk.elim) ?aF ?aO ?aB ?aS ?aL ?_; (case aP => exact k43_mkM _ _ _ (⟨(rd_T43 l0 x9_1).f0, (rd_T43 l0 x9_1).f1, (rd_T43 l0 x9_1).f2, (rd_T43 l0 x9_1).f3⟩ : S43)); (case aB => exact (by repeat (first | (with_reducible first | exact HB.out | apply below_alloc | apply pw_below_drewN | apply below_drew1 | refine below_set ?_ GE688.out | refine below_set ?_ GE690.out) | exact HB.out))); (case aF => exact (fun k_ hk => Kd.freshB (g := gb690) (o := .cells #[.string ((rd_T43 l0 x9_1).f0), .int .u16 ((rd_T43 l0 x9_1).f1), .int .u32 ((rd_T43 l0 x9_1).f2), .string ((rd_T43 l0 x9_1).f3)] 43 (0, 0)) (by (with_reducible repeat (first | refine blk_drewN ?_ _ | refine blk_drew ?_ | refine blk_alloc ?_ _)); refine blk_put (cs := #[.string ((rd_T43 l0 x9_1).f0), .int .u16 ((rd_T43 l0 x9_1).f1), .int .u32 ((rd_T43 l0 x9_1).f2), .string (⟨#[]⟩ : ByteArray)]) ?_ 3 _ rfl; (with_reducible repeat (first | refine blk_drewN ?_ _ | refine blk_drew ?_ | refine blk_alloc ?_ _)); refine blk_put (cs := #[.string ((rd_T43 l0 x9_1).f0), .int .u16 ((rd_T43 l0 x9_1).f1), .int .u32 0, .string (⟨#[]⟩ : ByteArray)]) ?_ 2 _ rfl; (with_reducible repeat (first | refine blk_drewN ?_ _ | refine blk_drew ?_ | refine blk_alloc ?_ _)); refine blk_put (cs := #[.string ((rd_T43 l0 x9_1).f0), .int .u16 0, .int .u32 0, .string (⟨#[]⟩ : ByteArray)]) ?_ 1 _ rfl; (with_reducible repeat (first | refine blk_drewN ?_ _ | refine blk_drew ?_ | refine blk_alloc ?_ _)); refine blk_put (cs := #[.string (⟨#[]⟩ : ByteArray), .int .u16 0, .int .u32 0, .string (⟨#[]⟩ : ByteArray)]) ?_ 0 _ rfl; (with_reducible repeat (first | refine blk_drewN ?_ _ | refine blk_drew ?_ | refine blk_alloc ?_ _)); exact BK690.out) k_ hk)); (case aO => exact (by (with_reducible repeat (first | apply Kd.R_alloc | apply Kd.R_drewN | apply Kd.R_drew)); exact Kd.R_mono (Kd.R_far (p := ⟨gb690, 3, none⟩) (Kd.R_far (p := ⟨gb690, 2, none⟩) (Kd.R_far (p := ⟨gb690, 1, none⟩) (Kd.R_far (p := ⟨gb690, 0, none⟩) (Kd.R_mono HO_4.out (fun k_ hk => (⟨hk, hk.2⟩ : _ ∧ k_ ≠ gb690))) (fun _ hk => hk.2) (.string ((rd_T43 l0 x9_1).f0))) (fun _ hk => hk.2) (.int .u16 ((rd_T43 l0 x9_1).f1))) (fun _ hk => hk.2) (.int .u32 ((rd_T43 l0 x9_1).f2))) (fun _ hk => hk.2) (.string ((rd_T43 l0 x9_1).f3))) (fun _ hk => hk.1.2))); (case aS => exact (below_size (by repeat (first | (with_reducible first | exact HB.out | apply below_alloc | apply pw_below_drewN | apply below_drew1 | refine below_set ?_ GE688.out | refine below_set ?_ GE690.out) | exact HB.out)))); (case aL => have := LMc22.out; omega); intro v692 w26 ho hb hg hat; rw [← Ny691.out] at ho; have n0_ := Aside0.mk (blk_grown (g := gb688) (o := .cells #[.int .i64 x689000_1, .string x689001_1, .bool x689002_1, .slice none 0 0] 28 (0, 0)) (by (with_reducible repeat (first | refine blk_drewN ?_ _ | refine blk_drew ?_ | refine blk_alloc ?_ _)); refine blk_far ?_ NB688_690.out _; (with_reducible repeat (first | refine blk_drewN ?_ _ | refine blk_drew ?_ | refine blk_alloc ?_ _)); refine blk_far ?_ NB688_690.out _; (with_reducible repeat (first | refine blk_drewN ?_ _ | refine blk_drew ?_ | refine blk_alloc ?_ _)); refine blk_far ?_ NB688_690.out _; (with_reducible repeat (first | refine blk_drewN ?_ _ | refine blk_drew ?_ | refine blk_alloc ?_ _)); refine blk_far ?_ NB688_690.out _; (with_reducible repeat (first | refine blk_drewN ?_ _ | refine blk_drew ?_ | refine blk_alloc ?_ _)); exact BK688.out) hg (Kd.R_ne HO_4.out BK688.out (by decide))); have n1_ := Aside0.mk (blk_grown (g := gb690) (o := .cells #[.string ((rd_T43 l0 x9_1).f0), .int .u16 ((rd_T43 l0 x9_1).f1), .int .u32 ((rd_T43 l0 x9_1).f2), .string ((rd_T43 l0 x9_1).f3)] 43 (0, 0)) (by (with_reducible repeat (first | refine blk_drewN ?_ _ | refine blk_drew ?_ | refine blk_alloc ?_ _)); refine blk_put (cs := #[.string ((rd_T43 l0 x9_1).f0), .int .u16 ((rd_T43 l0 x9_1).f1), .int .u32 ((rd_T43 l0 x9_1).f2), .string (⟨#[]⟩ : ByteArray)]) ?_ 3 _ rfl; (with_reducible repeat (first | refine blk_drewN ?_ _ | refine blk_drew ?_ | refine blk_alloc ?_ _)); refine blk_put (cs := #[.string ((rd_T43 l0 x9_1).f0), .int .u16 ((rd_T43 l0 x9_1).f1), .int .u32 0, .string (⟨#[]⟩ : ByteArray)]) ?_ 2 _ rfl; (with_reducible repeat (first | refine blk_drewN ?_ _ | refine blk_drew ?_ | refine blk_alloc ?_ _)); refine blk_put (cs := #[.string ((rd_T43 l0 x9_1).f0), .int .u16 0, .int .u32 0, .string (⟨#[]⟩ : ByteArray)]) ?_ 1 _ rfl; (with_reducible repeat (first | refine blk_drewN ?_ _ | refine blk_drew ?_ | refine blk_alloc ?_ _)); refine blk_put (cs := #[.string (⟨#[]⟩ : ByteArray), .int .u16 0, .int .u32 0, .string (⟨#[]⟩ : ByteArray)]) ?_ 0 _ rfl; (with_reducible repeat (first | refine blk_drewN ?_ _ | refine blk_drew ?_ | refine blk_alloc ?_ _)); exact BK690.out) hg (Kd.R_away HO_4.out (fun _ hk => hk.2))); have n2_ := Aside0.mk (hb); have n3_ := Aside0.mk (ho); clear BK688; clear BK690; clear HB; clear HO_4; have BK688 := n0_; have BK690 := n1_; have HB := n2_; have HO693 := n3_; clear n0_ n1_ n2_ n3_; clear ho hb hg hat))
   go_roundg k1
   case measure => have := HK1.out; omega
   case rel => exact ⟨(y691), (wrap64 (x9_1 + 1)), (x689000_1), (x689001_1), (x689002_1), (by first | rfl | (simp; done) | (simp [*]; done)), H', ⟨by have := HK1.out; omega⟩, ⟨by (with_reducible repeat (first | apply Kd.R_alloc | apply Kd.R_drewN | apply Kd.R_drew)); exact Kd.R_mono HO693.out (fun _ hk => trivial)⟩, ⟨by (with_reducible repeat (first | refine blk_drewN ?_ _ | refine blk_drew ?_ | refine blk_alloc ?_ _)); exact BK688.out⟩, ⟨by repeat (first | (with_reducible first | exact HB.out | apply below_alloc | apply pw_below_drewN | apply below_drew1 | refine below_set ?_ GE688.out | refine below_set ?_ GE690.out) | exact HB.out)⟩⟩

end Go.Proofs.Ytdkjlbbbdjkhbaa.PAll
