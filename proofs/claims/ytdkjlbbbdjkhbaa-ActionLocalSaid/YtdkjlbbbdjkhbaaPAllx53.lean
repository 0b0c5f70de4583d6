-- Written by a program of this session (wip/tools/drive.py over the kit's printer): functions, contracts and rows (All).
import Derived.Test.YtdkjlbbbdjkhbaaPAllx0
import Derived.Test.YtdkjlbbbdjkhbaaPAllx25
import Derived.Test.YtdkjlbbbdjkhbaaPAllx34
import Derived.Test.YtdkjlbbbdjkhbaaPAllx44
import Derived.Test.YtdkjlbbbdjkhbaaPAllx45
import Derived.Test.YtdkjlbbbdjkhbaaPAllx48
namespace Go.Proofs.Ytdkjlbbbdjkhbaa.PAll
open Go.RowKit Go.Proofs.YtdkjlbbbdjkhbaaW.PrintWords Go.Proofs.YtdkjlbbbdjkhbaaW.PrintLast Go.Proofs.YtdkjlbbbdjkhbaaW.PrintMore
attribute [local go_sem] max2_int min2_int max_two min_two max_three min_three max_four min_four   -- for this text's walks alone
open Go.Proofs.Ytdkjlbbbdjkhbaa.Hand
set_option linter.unusedVariables false
set_option linter.unusedSimpArgs false

abbrev nb (v : Value) (k_ : Nat) : Prop := some k_ ≠ v.ownBlock
/-! ### bolterlaw14_ActionLocal: function 6 -/
def bolterlaw14_ActionLocal.l0 : Nat → Int → List (S43) → List (S43) → Int → Int → Option (Bool)
 | 0, _, _, _, _, _ => none
 | k + 1, x1, x5, x15, x16, x17 => if x17 < x16 then (if 0 ≤ x17 then (if x17 < (x15.length : Int) then (if ((rd_T43 x15 x17).f1) = 5 then (bolterlaw14_ActionLocal.l0 k x1 x5 x15 x16 (wrap64 (x17 + 1))) else (if ((rd_T43 x15 x17).f1) = 6 then (bolterlaw14_ActionLocal.l0 k x1 x5 x15 x16 (wrap64 (x17 + 1))) else (if ((rd_T43 x15 x17).f1) = 2 then (bolterlaw14_ActionLocal.l0 k x1 x5 x15 x16 (wrap64 (x17 + 1))) else ((some (([(⟨(rd_T43 x15 x17).f0, (rd_T43 x15 x17).f1, (rd_T43 x15 x17).f2, (rd_T43 x15 x17).f3⟩ : S43)] : List (S43)) : List (S43))).bind fun y885 => (if x5.length + y885.length < 3518437208883 then (bolterlaw14_ActionLocal.l0 k x1 (x5 ++ y885) x15 x16 (wrap64 (x17 + 1))) else (none)))))) else (none)) else (none)) else ((action_Of.f k x5).bind fun bt891 => (if (x5.length : Int) = 0 then (some (!bt891.2.2.2.2)) else (if ([] : List (S43)).length + x5.length < 3518437208883 then ((some (([] : List (S43)) ++ x5 : List (S43))).bind fun y899 => ((some (([5, 6, 2] : List Int) : List Int)).bind fun y902 => (if 0 ≤ (Int.tmod x1 3) then (if (Int.tmod x1 3) < (y902.length : Int) then ((some (([(⟨(⟨#[]⟩ : ByteArray), rd y902 (Int.tmod x1 3), 0, (⟨#[]⟩ : ByteArray)⟩ : S43)] : List (S43)) : List (S43))).bind fun y906 => (if y899.length + y906.length < 3518437208883 then ((action_Of.f k (y899 ++ y906)).bind fun bt912 => (if bt891.2.2.2.2 = true then (if bt891.1 = 8 then ((bolterlaw05_SameRecords.f k bt891.2.2.2.1 x5).bind fun t920 => (if t920 = true then (if bt912.2.2.2.2 = true then (some false) else ((action_Same.f k bt912.1 bt912.2.1 bt912.2.2.1 bt912.2.2.2.1 0 (⟨#[]⟩ : ByteArray) false ([] : List (S43))).bind fun t921 => (some t921))) else (some false))) else (some false)) else (some false))) else (none))) else (none)) else (none)))) else (none))))
def bolterlaw14_ActionLocal.f (k : Nat) (l0 : List (S86)) (a1 : Int) : Option (Bool) := (bolterlaw14_awake.f k).bind fun t879 => (if t879 = true then ((bolterlaw05_Records.f k l0 8).bind fun t880 => (bolterlaw14_ActionLocal.l0 k a1 ([] : List (S43)) t880 (t880.length : Int) 0)) else (some false))
theorem bolterlaw14_ActionLocal.mono_l : ∀ k, (∀ y0 y1 y2 y3 y4, LeO (bolterlaw14_ActionLocal.l0 k y0 y1 y2 y3 y4) (bolterlaw14_ActionLocal.l0 (k + 1) y0 y1 y2 y3 y4))
 | 0 => fun _ _ _ _ _ r h => by simp [bolterlaw14_ActionLocal.l0] at h
 | k + 1 => by
  have ih0 := bolterlaw14_ActionLocal.mono_l k
  ·intro y0 y1 y2 y3 y4
   unfold bolterlaw14_ActionLocal.l0
   repeat' first
   | (with_reducible exact ih0 _ _ _ _ _)
   | (with_reducible exact action_Of.mono _ _)
   | (with_reducible exact action_Same.mono _ _ _ _ _ _ _ _ _)
   | (with_reducible exact bolterlaw05_Records.mono _ _ _)
   | (with_reducible exact bolterlaw05_SameRecords.mono _ _ _)
   | (with_reducible exact bolterlaw14_awake.mono _)
   | (with_reducible exact LeO.refl _)
   | (with_reducible exact LeO.none _)
   | (with_reducible refine LeO.ite ?_ ?_)
   | (with_reducible refine LeO.bind ?_ (fun _ => ?_))
   | exact ih0 _ _ _ _ _
   | exact action_Of.mono _ _
   | exact action_Same.mono _ _ _ _ _ _ _ _ _
   | exact bolterlaw05_Records.mono _ _ _
   | exact bolterlaw05_SameRecords.mono _ _ _
   | exact bolterlaw14_awake.mono _
   | exact LeO.none _
   | refine LeO.ite ?_ ?_
   | refine LeO.bind ?_ (fun _ => ?_)
theorem bolterlaw14_ActionLocal.mono : ∀ a0 a1 k, LeO (bolterlaw14_ActionLocal.f k a0 a1) (bolterlaw14_ActionLocal.f (k + 1) a0 a1) := by
 intro a0 a1 k
 have ih0 := bolterlaw14_ActionLocal.mono_l k
 unfold bolterlaw14_ActionLocal.f
 repeat' first
   | (with_reducible exact ih0 _ _ _ _ _)
   | (with_reducible exact action_Of.mono _ _)
   | (with_reducible exact action_Same.mono _ _ _ _ _ _ _ _ _)
   | (with_reducible exact bolterlaw05_Records.mono _ _ _)
   | (with_reducible exact bolterlaw05_SameRecords.mono _ _ _)
   | (with_reducible exact bolterlaw14_awake.mono _)
   | (with_reducible exact LeO.refl _)
   | (with_reducible exact LeO.none _)
   | (with_reducible refine LeO.ite ?_ ?_)
   | (with_reducible refine LeO.bind ?_ (fun _ => ?_))
   | exact ih0 _ _ _ _ _
   | exact action_Of.mono _ _
   | exact action_Same.mono _ _ _ _ _ _ _ _ _
   | exact bolterlaw05_Records.mono _ _ _
   | exact bolterlaw05_SameRecords.mono _ _ _
   | exact bolterlaw14_awake.mono _
   | exact LeO.none _
   | refine LeO.ite ?_ ?_
   | refine LeO.bind ?_ (fun _ => ?_)
def bolterlaw14_ActionLocal.T13 : Bool × List (List Nat × List Nat) := (true, [([], []), ([0], [0]), ([], []), ([], []), ([3], [3]), ([2, 4], [2, 4]), ([5], [5]), ([6], [6]), ([7], [7]), ([1, 8, 1], [1, 8]), ([9, 9], [9]), ([10], [10]), ([11], [11]), ([11], [11]), ([], []), ([14, 12, 10, 0, 1, 2, 3, 4, 5, 6, 7, 8, 9, 10, 11, 12, 14], [12, 14]), ([13, 15, 0, 1, 2, 3, 4, 5, 6, 7, 8, 9, 10, 11, 12, 13, 14, 15], [13])])
def bolterlaw14_ActionLocal.B13 : List Nat := [0, 1, 0, 0, 8, 28, 60, 124, 252, 511, 1023, 2047, 4095, 4095, 0, 24575, 65535]
theorem bolterlaw14_ActionLocal.tab13 : rtab .any (opsOf Try.f6 13) = bolterlaw14_ActionLocal.T13 := by kernel_rfl
theorem bolterlaw14_ActionLocal.bits13 : waitsOk bolterlaw14_ActionLocal.T13.2 bolterlaw14_ActionLocal.B13 = true := by kernel_rfl
set_option maxHeartbeats 8000000 in
set_option maxRecDepth 100000 in
theorem bolterlaw14_ActionLocal.calls (k : Nat) (A0 : Option Addr) (c0 : Nat) (l0 : List (S86)) (a1 : Int) (r : Bool) (w : World) (hr0 : Kd.C k86 w A0 l0.length l0) (hc0 : l0.length ≤ c0) (h : bolterlaw14_ActionLocal.f k l0 a1 = some r) (hT : r = true) :
  Calls Try.prog 6 #[.slice A0 l0.length c0, .int .u8 a1] w fun e w' => e = .returned (.bool r) ∧ Below w.heap.size w w' := by
 have hu43 := Try.underlying43
 have hu28 := Try.underlying28
 have HR0 := Aside0.mk hr0
 have HC0 := Aside0.mk hc0
 clear hr0 hc0
 have HB := Aside0.mk (Below.refl w.heap.size w)
 have H : ((bolterlaw14_awake.f k).bind fun t879 => (if t879 = true then ((bolterlaw05_Records.f k l0 8).bind fun t880 => (bolterlaw14_ActionLocal.l0 k a1 ([] : List (S43)) t880 (t880.length : Int) 0)) else (some false))) = some r := h
 clear h
 replace H := Option.bind_eq_some_iff.mp H
 obtain ⟨t879, A30, H⟩ := H
 replace H : (if t879 = true then ((bolterlaw05_Records.f k l0 8).bind fun t880 => (bolterlaw14_ActionLocal.l0 k a1 ([] : List (S43)) t880 (t880.length : Int) 0)) else (some false)) = some r := H
 have A3 := Aside0.mk A30
 clear A30
 by_cases c4 : t879 = true
 rotate_left
 ·replace c4 := Bool.eq_false_iff.mpr c4
  subst c4
  have H1 : (some false) = some r := by rw [if_neg (show ¬ (false = true) by decide)] at H; exact H
  clear H
  have H := H1
  clear H1
  obtain rfl := Option.some.inj H
  exact absurd hT Bool.false_ne_true
 subst c4
 have H1 : ((bolterlaw05_Records.f k l0 8).bind fun t880 => (bolterlaw14_ActionLocal.l0 k a1 ([] : List (S43)) t880 (t880.length : Int) 0)) = some r := by rw [if_pos rfl] at H; exact H
 clear H
 have H := H1
 clear H1
 replace H := Option.bind_eq_some_iff.mp H
 obtain ⟨t880, A50, H⟩ := H
 replace H : (bolterlaw14_ActionLocal.l0 k a1 ([] : List (S43)) t880 (t880.length : Int) 0) = some r := H
 have A5 := Aside0.mk A50
 clear A50
 have H' := Aside0.mk H
 clear H
 go_enter Try.func6, Try.ntmps6
 go_wp2_with (first | ((with_reducible refine gate_callee (f := 13) rfl ?_); refine goesL_ (some 12) rfl rfl Try.func13 (by kernel_rfl) rfl #[] rfl (by (try simp only [List.map_toArray, List.map_cons, List.map_nil]); first | done | rfl | (simp only [List.length_drop, List.length_take]; rfl)) ?_; (with_reducible refine (bolterlaw14_awake.calls k  true _ A3.out rfl).mono ?_); rintro e w6 ⟨rfl, hb⟩; refine ⟨_, rfl, ?_⟩; have n0_ := Aside0.mk (below_step HB.out hb); clear HB; have HB := n0_; clear n0_; (try clear hb); (try clear hb2); (try clear hk); (try clear hi)) | ((with_reducible refine gate_callee (f := 21) rfl ?_); refine goesL_ (some 15) rfl rfl Try.func21 (by kernel_rfl) rfl #[.slice A0 l0.length c0, .int .i64 8] rfl (by (try simp only [List.map_toArray, List.map_cons, List.map_nil]); first | done | rfl | (simp only [List.length_drop, List.length_take]; rfl)) ?_; (with_reducible refine (bolterlaw05_Records.calls k _ _ l0 8 t880 _ ?side1 ?side2 A5.out).mono ?_); (case side1 => repeat (first | exact (Kd.C_below HR0.out HB.out) | (with_reducible refine Kd.C_alloc ?_ _) | (with_reducible refine Kd.C_drewN ?_ _) | (with_reducible refine Kd.C_drew ?_))); (case side2 => exact HC0.out); rintro e w7 ⟨v881, rfl, ho0, hb⟩; refine ⟨_, rfl, ?_⟩; have n0_ := Aside0.mk (Kd.R_lower ho0 (below_size HB.out)); have n1_ := Aside0.mk (below_step HB.out hb); clear HB; have HO882 := n0_; have HB := n1_; clear n0_ n1_; (try clear hb); (try clear hb2); (try clear hk); (try clear hi); (try clear ho0); obtain ⟨Ao8, co8, eo8⟩ := Kd.R_slice HO882.out; subst eo8))
 go_loopg [5, 17] k (fun kq v5 v17 w' => ∃ (x5_1 : List (S43)) (x17_1 : Int), v17 = .int .i64 x17_1 ∧ Aside0 (bolterlaw14_ActionLocal.l0 kq a1 x5_1 t880 (t880.length : Int) x17_1 = some r) ∧ Aside0 (kq ≤ k) ∧ Aside0 (Kd.R k43 43 w' w.heap.size (fun k_ => nb ((.slice Ao8 t880.length co8)) k_) v5 x5_1) ∧ Aside0 (Kd.R k43 43 w' w.heap.size (fun k_ => nb v5 k_) (.slice Ao8 t880.length co8) t880) ∧ Aside0 (Below w.heap.size w w'))
 case atStart => exact ⟨(([] : List (S43))), (0), (by first | rfl | (simp; done) | (simp [*]; done)), H', ⟨Nat.le_refl _⟩, ⟨by first | exact Kd.R_nil _ _ _ _ _ | exact Kd.N_nil _ _ _ _ _ | exact Kd.V_nil _ _ _ _ _ | exact Kd.Q_nil _ _ _ _ _ | exact Kd.S_nil _ _ _ _ _⟩, ⟨by (with_reducible repeat (first | apply Kd.R_alloc | apply Kd.R_drewN | apply Kd.R_drew)); exact Kd.R_mono HO882.out (fun _ hk => (by simp [Value.ownBlock]))⟩, ⟨by repeat (first | (with_reducible first | exact HB.out | apply below_alloc | apply pw_below_drewN | apply below_drew1) | exact HB.out)⟩⟩
 case round =>
  clear H'
  try clear c1
  try clear c2
  try clear p2
  try clear c4
  try clear c6
  obtain ⟨x5_1, x17_1, rfl, HA, HK1, HO_5, HO_15, HB⟩ := hrel
  cases gk with
  | zero => exact absurd HA.out (by simp [bolterlaw14_ActionLocal.l0])
  | succ k1 =>
   have H := HA.out
   clear HA
   simp only [bolterlaw14_ActionLocal.l0] at H
   by_cases c9 : x17_1 < (t880.length : Int)
   ·rw [if_pos c9] at H
    have c9b0 : decide (x17_1 < (t880.length : Int)) = true := decide_eq_true c9
    clear c9
    by_cases c10 : 0 ≤ x17_1
    rotate_left
    ·rw [if_neg c10] at H
     exact absurd H (by simp)
    rw [if_pos c10] at H
    have c10b0 : decide (0 ≤ x17_1) = true := decide_eq_true c10
    clear c10
    by_cases c11 : x17_1 < (t880.length : Int)
    rotate_left
    ·rw [if_neg c11] at H
     exact absurd H (by simp)
    rw [if_pos c11] at H
    have c11b0 : decide (x17_1 < (t880.length : Int)) = true := decide_eq_true c11
    clear c11
    by_cases c12 : ((rd_T43 t880 x17_1).f1) = 5
    ·rw [if_pos c12] at H
     have c12b0 : (((rd_T43 t880 x17_1).f1) == 5) = true := beq_iff_eq.mpr c12
     have c12b1 : (((rd_T43 t880 x17_1).f1) != 5) = false := bne_eq_false_iff_eq.mpr c12
     clear c12
     have H' := Aside0.mk H
     clear H
     have p883 : 0 ≤ (x17_1 : Int) := of_decide_eq_true (by first | (with_reducible assumption) | assumption)
     have q883 : x17_1 < (t880.length : Int) := of_decide_eq_true (by first | (with_reducible assumption) | assumption)
     obtain ⟨ad883, e883, hx883_0, hx883_1, hx883_2, hx883_3⟩ := at_T43 (Kd.R_reads' HO_15.out).2.2 x17_1 p883 q883
     cases e883
     replace p883 := eq_true p883
     replace q883 := eq_true q883
     go_wp2_with (first | ((with_reducible refine gate_dst (N := 7) rfl ?_); refine box_event ?hg (N := 7) ?hd (cs := #[.string (⟨#[]⟩ : ByteArray), .int .u16 0, .int .u32 0, .string (⟨#[]⟩ : ByteArray)]) (t := 43) ?hr ?_; (case hd => rfl); (case hg => rfl); (case hr => first | (go_simp; done) | (go_simp; rfl)); intro gb884 hg w13 hbox hb; have n0_ := Aside0.mk (Kd.R_below (Kd.R_elderB HO_5.out gb884 (Nat.le_of_eq hg.symm)) hb); have n1_ := Aside0.mk (Kd.R_below (Kd.R_elderB HO_15.out gb884 (Nat.le_of_eq hg.symm)) hb); have n2_ := Aside0.mk (below_step HB.out hb); have n3_ := Aside0.mk (hbox); have n4_ := Aside0.mk ((by rw [hg]; exact (below_size HB.out) : w.heap.size ≤ gb884)); have n5_ := Aside0.mk ((by rw [hg]; exact (below_size HB.out) : w.heap.size ≤ gb884)); clear HO_5; clear HO_15; clear HB; have HO_5 := n0_; have HO_15 := n1_; have HB := n2_; have BK884 := n3_; have GW884 := n4_; have GE884 := n5_; clear n0_ n1_ n2_ n3_ n4_ n5_; clear hb hbox hg; have hcz14_0 : w13.cell? ⟨gb884, 0, none⟩ = some (.string (⟨#[]⟩ : ByteArray)) := (blk_cell BK884.out 0).trans rfl; have hcz14_1 : w13.cell? ⟨gb884, 1, none⟩ = some (.int .u16 0) := (blk_cell BK884.out 1).trans rfl; have hcz14_2 : w13.cell? ⟨gb884, 2, none⟩ = some (.int .u32 0) := (blk_cell BK884.out 2).trans rfl; have hcz14_3 : w13.cell? ⟨gb884, 3, none⟩ = some (.string (⟨#[]⟩ : ByteArray)) := (blk_cell BK884.out 3).trans rfl; have hfz14_0 := blk_frozen BK884.out 0; have hfz14_1 := blk_frozen BK884.out 1; have hfz14_2 := blk_frozen BK884.out 2; have hfz14_3 := blk_frozen BK884.out 3))
     go_roundg k1
     case measure => have := HK1.out; omega
     case rel => exact ⟨(x5_1), (wrap64 (x17_1 + 1)), (by first | rfl | (simp; done) | (simp [*]; done)), H', ⟨by have := HK1.out; omega⟩, ⟨by (with_reducible repeat (first | apply Kd.R_alloc | apply Kd.R_drewN | apply Kd.R_drew)); exact Kd.R_mono (Kd.R_far (p := ⟨gb884, 3, none⟩) (Kd.R_far (p := ⟨gb884, 2, none⟩) (Kd.R_far (p := ⟨gb884, 1, none⟩) (Kd.R_far (p := ⟨gb884, 0, none⟩) (Kd.R_mono HO_5.out (fun k_ hk => (⟨hk, hk.2⟩ : _ ∧ k_ ≠ gb884))) (fun _ hk => hk.2) (.string ((rd_T43 t880 x17_1).f0))) (fun _ hk => hk.2) (.int .u16 ((rd_T43 t880 x17_1).f1))) (fun _ hk => hk.2) (.int .u32 ((rd_T43 t880 x17_1).f2))) (fun _ hk => hk.2) (.string ((rd_T43 t880 x17_1).f3))) (fun _ hk => hk.1.1)⟩, ⟨by (with_reducible repeat (first | apply Kd.R_alloc | apply Kd.R_drewN | apply Kd.R_drew)); exact Kd.R_mono (Kd.R_far (p := ⟨gb884, 3, none⟩) (Kd.R_far (p := ⟨gb884, 2, none⟩) (Kd.R_far (p := ⟨gb884, 1, none⟩) (Kd.R_far (p := ⟨gb884, 0, none⟩) (Kd.R_mono HO_15.out (fun k_ hk => (⟨hk, hk.2⟩ : _ ∧ k_ ≠ gb884))) (fun _ hk => hk.2) (.string ((rd_T43 t880 x17_1).f0))) (fun _ hk => hk.2) (.int .u16 ((rd_T43 t880 x17_1).f1))) (fun _ hk => hk.2) (.int .u32 ((rd_T43 t880 x17_1).f2))) (fun _ hk => hk.2) (.string ((rd_T43 t880 x17_1).f3))) (fun _ hk => hk.1.1)⟩, ⟨by repeat (first | (with_reducible first | exact HB.out | apply below_alloc | apply pw_below_drewN | apply below_drew1 | refine below_set ?_ GE884.out) | exact HB.out)⟩⟩
    rw [if_neg c12] at H
    have c12b0 : (((rd_T43 t880 x17_1).f1) == 5) = false := beq_eq_false_iff_ne.mpr c12
    have c12b1 : (((rd_T43 t880 x17_1).f1) != 5) = true := bne_iff_ne.mpr c12
    by_cases c15 : ((rd_T43 t880 x17_1).f1) = 6
    ·rw [if_pos c15] at H
     have c15b0 : (((rd_T43 t880 x17_1).f1) == 6) = true := beq_iff_eq.mpr c15
     have c15b1 : (((rd_T43 t880 x17_1).f1) != 6) = false := bne_eq_false_iff_eq.mpr c15
     clear c15
     have H' := Aside0.mk H
     clear H
     have p883 : 0 ≤ (x17_1 : Int) := of_decide_eq_true (by first | (with_reducible assumption) | assumption)
     have q883 : x17_1 < (t880.length : Int) := of_decide_eq_true (by first | (with_reducible assumption) | assumption)
     obtain ⟨ad883, e883, hx883_0, hx883_1, hx883_2, hx883_3⟩ := at_T43 (Kd.R_reads' HO_15.out).2.2 x17_1 p883 q883
     cases e883
     replace p883 := eq_true p883
     replace q883 := eq_true q883
     go_wp2_with (first | ((with_reducible refine gate_dst (N := 7) rfl ?_); refine box_event ?hg (N := 7) ?hd (cs := #[.string (⟨#[]⟩ : ByteArray), .int .u16 0, .int .u32 0, .string (⟨#[]⟩ : ByteArray)]) (t := 43) ?hr ?_; (case hd => rfl); (case hg => rfl); (case hr => first | (go_simp; done) | (go_simp; rfl)); intro gb884 hg w16 hbox hb; have n0_ := Aside0.mk (Kd.R_below (Kd.R_elderB HO_5.out gb884 (Nat.le_of_eq hg.symm)) hb); have n1_ := Aside0.mk (Kd.R_below (Kd.R_elderB HO_15.out gb884 (Nat.le_of_eq hg.symm)) hb); have n2_ := Aside0.mk (below_step HB.out hb); have n3_ := Aside0.mk (hbox); have n4_ := Aside0.mk ((by rw [hg]; exact (below_size HB.out) : w.heap.size ≤ gb884)); have n5_ := Aside0.mk ((by rw [hg]; exact (below_size HB.out) : w.heap.size ≤ gb884)); clear HO_5; clear HO_15; clear HB; have HO_5 := n0_; have HO_15 := n1_; have HB := n2_; have BK884 := n3_; have GW884 := n4_; have GE884 := n5_; clear n0_ n1_ n2_ n3_ n4_ n5_; clear hb hbox hg; have hcz17_0 : w16.cell? ⟨gb884, 0, none⟩ = some (.string (⟨#[]⟩ : ByteArray)) := (blk_cell BK884.out 0).trans rfl; have hcz17_1 : w16.cell? ⟨gb884, 1, none⟩ = some (.int .u16 0) := (blk_cell BK884.out 1).trans rfl; have hcz17_2 : w16.cell? ⟨gb884, 2, none⟩ = some (.int .u32 0) := (blk_cell BK884.out 2).trans rfl; have hcz17_3 : w16.cell? ⟨gb884, 3, none⟩ = some (.string (⟨#[]⟩ : ByteArray)) := (blk_cell BK884.out 3).trans rfl; have hfz17_0 := blk_frozen BK884.out 0; have hfz17_1 := blk_frozen BK884.out 1; have hfz17_2 := blk_frozen BK884.out 2; have hfz17_3 := blk_frozen BK884.out 3))
     go_roundg k1
     case measure => have := HK1.out; omega
     case rel => exact ⟨(x5_1), (wrap64 (x17_1 + 1)), (by first | rfl | (simp; done) | (simp [*]; done)), H', ⟨by have := HK1.out; omega⟩, ⟨by (with_reducible repeat (first | apply Kd.R_alloc | apply Kd.R_drewN | apply Kd.R_drew)); exact Kd.R_mono (Kd.R_far (p := ⟨gb884, 3, none⟩) (Kd.R_far (p := ⟨gb884, 2, none⟩) (Kd.R_far (p := ⟨gb884, 1, none⟩) (Kd.R_far (p := ⟨gb884, 0, none⟩) (Kd.R_mono HO_5.out (fun k_ hk => (⟨hk, hk.2⟩ : _ ∧ k_ ≠ gb884))) (fun _ hk => hk.2) (.string ((rd_T43 t880 x17_1).f0))) (fun _ hk => hk.2) (.int .u16 ((rd_T43 t880 x17_1).f1))) (fun _ hk => hk.2) (.int .u32 ((rd_T43 t880 x17_1).f2))) (fun _ hk => hk.2) (.string ((rd_T43 t880 x17_1).f3))) (fun _ hk => hk.1.1)⟩, ⟨by (with_reducible repeat (first | apply Kd.R_alloc | apply Kd.R_drewN | apply Kd.R_drew)); exact Kd.R_mono (Kd.R_far (p := ⟨gb884, 3, none⟩) (Kd.R_far (p := ⟨gb884, 2, none⟩) (Kd.R_far (p := ⟨gb884, 1, none⟩) (Kd.R_far (p := ⟨gb884, 0, none⟩) (Kd.R_mono HO_15.out (fun k_ hk => (⟨hk, hk.2⟩ : _ ∧ k_ ≠ gb884))) (fun _ hk => hk.2) (.string ((rd_T43 t880 x17_1).f0))) (fun _ hk => hk.2) (.int .u16 ((rd_T43 t880 x17_1).f1))) (fun _ hk => hk.2) (.int .u32 ((rd_T43 t880 x17_1).f2))) (fun _ hk => hk.2) (.string ((rd_T43 t880 x17_1).f3))) (fun _ hk => hk.1.1)⟩, ⟨by repeat (first | (with_reducible first | exact HB.out | apply below_alloc | apply pw_below_drewN | apply below_drew1 | refine below_set ?_ GE884.out) | exact HB.out)⟩⟩
    rw [if_neg c15] at H
    have c15b0 : (((rd_T43 t880 x17_1).f1) == 6) = false := beq_eq_false_iff_ne.mpr c15
    have c15b1 : (((rd_T43 t880 x17_1).f1) != 6) = true := bne_iff_ne.mpr c15
    by_cases c18 : ((rd_T43 t880 x17_1).f1) = 2
    ·rw [if_pos c18] at H
     have c18b0 : (((rd_T43 t880 x17_1).f1) == 2) = true := beq_iff_eq.mpr c18
     have c18b1 : (((rd_T43 t880 x17_1).f1) != 2) = false := bne_eq_false_iff_eq.mpr c18
     clear c18
     have H' := Aside0.mk H
     clear H
     have p883 : 0 ≤ (x17_1 : Int) := of_decide_eq_true (by first | (with_reducible assumption) | assumption)
     have q883 : x17_1 < (t880.length : Int) := of_decide_eq_true (by first | (with_reducible assumption) | assumption)
     obtain ⟨ad883, e883, hx883_0, hx883_1, hx883_2, hx883_3⟩ := at_T43 (Kd.R_reads' HO_15.out).2.2 x17_1 p883 q883
     cases e883
     replace p883 := eq_true p883
     replace q883 := eq_true q883
     go_wp2_with (first | ((with_reducible refine gate_dst (N := 7) rfl ?_); refine box_event ?hg (N := 7) ?hd (cs := #[.string (⟨#[]⟩ : ByteArray), .int .u16 0, .int .u32 0, .string (⟨#[]⟩ : ByteArray)]) (t := 43) ?hr ?_; (case hd => rfl); (case hg => rfl); (case hr => first | (go_simp; done) | (go_simp; rfl)); intro gb884 hg w19 hbox hb; have n0_ := Aside0.mk (Kd.R_below (Kd.R_elderB HO_5.out gb884 (Nat.le_of_eq hg.symm)) hb); have n1_ := Aside0.mk (Kd.R_below (Kd.R_elderB HO_15.out gb884 (Nat.le_of_eq hg.symm)) hb); have n2_ := Aside0.mk (below_step HB.out hb); have n3_ := Aside0.mk (hbox); have n4_ := Aside0.mk ((by rw [hg]; exact (below_size HB.out) : w.heap.size ≤ gb884)); have n5_ := Aside0.mk ((by rw [hg]; exact (below_size HB.out) : w.heap.size ≤ gb884)); clear HO_5; clear HO_15; clear HB; have HO_5 := n0_; have HO_15 := n1_; have HB := n2_; have BK884 := n3_; have GW884 := n4_; have GE884 := n5_; clear n0_ n1_ n2_ n3_ n4_ n5_; clear hb hbox hg; have hcz20_0 : w19.cell? ⟨gb884, 0, none⟩ = some (.string (⟨#[]⟩ : ByteArray)) := (blk_cell BK884.out 0).trans rfl; have hcz20_1 : w19.cell? ⟨gb884, 1, none⟩ = some (.int .u16 0) := (blk_cell BK884.out 1).trans rfl; have hcz20_2 : w19.cell? ⟨gb884, 2, none⟩ = some (.int .u32 0) := (blk_cell BK884.out 2).trans rfl; have hcz20_3 : w19.cell? ⟨gb884, 3, none⟩ = some (.string (⟨#[]⟩ : ByteArray)) := (blk_cell BK884.out 3).trans rfl; have hfz20_0 := blk_frozen BK884.out 0; have hfz20_1 := blk_frozen BK884.out 1; have hfz20_2 := blk_frozen BK884.out 2; have hfz20_3 := blk_frozen BK884.out 3))
     go_roundg k1
     case measure => have := HK1.out; omega
     case rel => exact ⟨(x5_1), (wrap64 (x17_1 + 1)), (by first | rfl | (simp; done) | (simp [*]; done)), H', ⟨by have := HK1.out; omega⟩, ⟨by (with_reducible repeat (first | apply Kd.R_alloc | apply Kd.R_drewN | apply Kd.R_drew)); exact Kd.R_mono (Kd.R_far (p := ⟨gb884, 3, none⟩) (Kd.R_far (p := ⟨gb884, 2, none⟩) (Kd.R_far (p := ⟨gb884, 1, none⟩) (Kd.R_far (p := ⟨gb884, 0, none⟩) (Kd.R_mono HO_5.out (fun k_ hk => (⟨hk, hk.2⟩ : _ ∧ k_ ≠ gb884))) (fun _ hk => hk.2) (.string ((rd_T43 t880 x17_1).f0))) (fun _ hk => hk.2) (.int .u16 ((rd_T43 t880 x17_1).f1))) (fun _ hk => hk.2) (.int .u32 ((rd_T43 t880 x17_1).f2))) (fun _ hk => hk.2) (.string ((rd_T43 t880 x17_1).f3))) (fun _ hk => hk.1.1)⟩, ⟨by (with_reducible repeat (first | apply Kd.R_alloc | apply Kd.R_drewN | apply Kd.R_drew)); exact Kd.R_mono (Kd.R_far (p := ⟨gb884, 3, none⟩) (Kd.R_far (p := ⟨gb884, 2, none⟩) (Kd.R_far (p := ⟨gb884, 1, none⟩) (Kd.R_far (p := ⟨gb884, 0, none⟩) (Kd.R_mono HO_15.out (fun k_ hk => (⟨hk, hk.2⟩ : _ ∧ k_ ≠ gb884))) (fun _ hk => hk.2) (.string ((rd_T43 t880 x17_1).f0))) (fun _ hk => hk.2) (.int .u16 ((rd_T43 t880 x17_1).f1))) (fun _ hk => hk.2) (.int .u32 ((rd_T43 t880 x17_1).f2))) (fun _ hk => hk.2) (.string ((rd_T43 t880 x17_1).f3))) (fun _ hk => hk.1.1)⟩, ⟨by repeat (first | (with_reducible first | exact HB.out | apply below_alloc | apply pw_below_drewN | apply below_drew1 | refine below_set ?_ GE884.out) | exact HB.out)⟩⟩
    rw [if_neg c18] at H
    have c18b0 : (((rd_T43 t880 x17_1).f1) == 2) = false := beq_eq_false_iff_ne.mpr c18
    have c18b1 : (((rd_T43 t880 x17_1).f1) != 2) = true := bne_iff_ne.mpr c18
    obtain ⟨y885, hy885⟩ : ∃ y_ : List (S43), y_ = (([(⟨(rd_T43 t880 x17_1).f0, (rd_T43 t880 x17_1).f1, (rd_T43 t880 x17_1).f2, (rd_T43 t880 x17_1).f3⟩ : S43)] : List (S43))) := ⟨_, rfl⟩
    replace H : (if x5_1.length + y885.length < 3518437208883 then (bolterlaw14_ActionLocal.l0 k1 a1 (x5_1 ++ y885) t880 (t880.length : Int) (wrap64 (x17_1 + 1))) else (none)) = some r := by first | (rw [hy885]; with_reducible exact H) | (have H2_ := (Option.bind_some _ _).symm.trans H; rw [hy885]; with_reducible exact H2_) | (have H2_ := (Option.bind_some _ _).symm.trans H; with_reducible exact H2_) | with_reducible exact H | (rw [hy885]; exact H) | exact H
    have Ny885 := Aside0.mk hy885
    clear hy885
    by_cases c21 : x5_1.length + y885.length < 3518437208883
    rotate_left
    ·rw [if_neg c21] at H
     exact absurd H (by simp)
    rw [if_pos c21] at H
    have LMc21 := Aside0.mk c21
    clear c21
    obtain ⟨y888, hy888⟩ : ∃ y_ : List (S43), y_ = (x5_1 ++ y885) := ⟨_, rfl⟩
    replace H : (bolterlaw14_ActionLocal.l0 k1 a1 y888 t880 (t880.length : Int) (wrap64 (x17_1 + 1))) = some r := by first | (rw [hy888]; with_reducible exact H) | (have H2_ := (Option.bind_some _ _).symm.trans H; rw [hy888]; with_reducible exact H2_) | (have H2_ := (Option.bind_some _ _).symm.trans H; with_reducible exact H2_) | with_reducible exact H | (rw [hy888]; exact H) | exact H
    have Ny888 := Aside0.mk hy888
    clear hy888
    have H' := Aside0.mk H
    clear H
    have p883 : 0 ≤ (x17_1 : Int) := of_decide_eq_true (by first | (with_reducible assumption) | assumption)
    have q883 : x17_1 < (t880.length : Int) := of_decide_eq_true (by first | (with_reducible assumption) | assumption)
    obtain ⟨ad883, e883, hx883_0, hx883_1, hx883_2, hx883_3⟩ := at_T43 (Kd.R_reads' HO_15.out).2.2 x17_1 p883 q883
    cases e883
    replace p883 := eq_true p883
    replace q883 := eq_true q883
    go_wp2_with (first | ((with_reducible refine gate_dst (N := 7) rfl ?_); refine box_event ?hg (N := 7) ?hd (cs := #[.string (⟨#[]⟩ : ByteArray), .int .u16 0, .int .u32 0, .string (⟨#[]⟩ : ByteArray)]) (t := 43) ?hr ?_; (case hd => rfl); (case hg => rfl); (case hr => first | (go_simp; done) | (go_simp; rfl)); intro gb884 hg w22 hbox hb; have n0_ := Aside0.mk (Kd.R_below (Kd.R_elderB (by (with_reducible repeat (first | apply Kd.R_alloc | apply Kd.R_drewN | apply Kd.R_drew)); exact HO_5.out) gb884 (Nat.le_of_eq hg.symm)) hb); have n1_ := Aside0.mk (Kd.R_below (Kd.R_elderB (by (with_reducible repeat (first | apply Kd.R_alloc | apply Kd.R_drewN | apply Kd.R_drew)); exact HO_15.out) gb884 (Nat.le_of_eq hg.symm)) hb); have n2_ := Aside0.mk (below_step (by repeat (first | (with_reducible first | exact HB.out | apply below_alloc | apply pw_below_drewN | apply below_drew1) | exact HB.out)) hb); have n3_ := Aside0.mk (hbox); have n4_ := Aside0.mk ((by rw [hg]; exact (below_size (by repeat (first | (with_reducible first | exact HB.out | apply below_alloc | apply pw_below_drewN | apply below_drew1) | exact HB.out))) : w.heap.size ≤ gb884)); have n5_ := Aside0.mk ((by rw [hg]; exact (below_size (by repeat (first | (with_reducible first | exact HB.out | apply below_alloc | apply pw_below_drewN | apply below_drew1) | exact HB.out))) : w.heap.size ≤ gb884)); clear HO_5; clear HO_15; clear HB; have HO_5 := n0_; have HO_15 := n1_; have HB := n2_; have BK884 := n3_; have GW884 := n4_; have GE884 := n5_; clear n0_ n1_ n2_ n3_ n4_ n5_; clear hb hbox hg; have hcz23_0 : w22.cell? ⟨gb884, 0, none⟩ = some (.string (⟨#[]⟩ : ByteArray)) := (blk_cell BK884.out 0).trans rfl; have hcz23_1 : w22.cell? ⟨gb884, 1, none⟩ = some (.int .u16 0) := (blk_cell BK884.out 1).trans rfl; have hcz23_2 : w22.cell? ⟨gb884, 2, none⟩ = some (.int .u32 0) := (blk_cell BK884.out 2).trans rfl; have hcz23_3 : w22.cell? ⟨gb884, 3, none⟩ = some (.string (⟨#[]⟩ : ByteArray)) := (blk_cell BK884.out 3).trans rfl; have hfz23_0 := blk_frozen BK884.out 0; have hfz23_1 := blk_frozen BK884.out 1; have hfz23_2 := blk_frozen BK884.out 2; have hfz23_3 := blk_frozen BK884.out 3) | ((with_reducible refine gate_dst (N := 36) rfl ?_); refine Kd.R_lit k43 _ 43 ?hg (N := 36) ?hd (xs := ([(⟨(rd_T43 t880 x17_1).f0, (rd_T43 t880 x17_1).f1, (rd_T43 t880 x17_1).f2, (rd_T43 t880 x17_1).f3⟩ : S43)] : List (S43))) (inner := [.string ((rd_T43 t880 x17_1).f0), .int .u16 ((rd_T43 t880 x17_1).f1), .int .u32 ((rd_T43 t880 x17_1).f2), .string ((rd_T43 t880 x17_1).f3)]) (ok := fun _ => True) (okp := fun _ => True) ?hr ?hp (fun _ hk => hk) trivial (Below.refl _ _) (Nat.le_refl _) (by simp) ?_; (case hd => rfl); (case hg => rfl); (case hr => first | (go_simp; done) | (go_simp; rfl)); (case hp => exact (Reps.c4 (show Kd.M k43 _ _ _ (⟨(rd_T43 t880 x17_1).f0, (rd_T43 t880 x17_1).f1, (rd_T43 t880 x17_1).f2, (rd_T43 t880 x17_1).f3⟩ : S43) [.string ((rd_T43 t880 x17_1).f0), .int .u16 ((rd_T43 t880 x17_1).f1), .int .u32 ((rd_T43 t880 x17_1).f2), .string ((rd_T43 t880 x17_1).f3)] from (k43_mkM _ _ _ (⟨(rd_T43 t880 x17_1).f0, (rd_T43 t880 x17_1).f1, (rd_T43 t880 x17_1).f2, (rd_T43 t880 x17_1).f3⟩ : S43) )) (Reps.none _ _))); intro v886 w24 ho25 hb hg_ hnew_; clear hg_ hnew_; (first | rw [← Ny885.out] at ho25 | (simp only [Int.reduceToNat] at ho25; rw [← Ny885.out] at ho25)); have n0_ := Aside0.mk (Kd.R_elder' (by (with_reducible repeat (first | apply Kd.R_alloc | apply Kd.R_drewN | apply Kd.R_drew)); exact (Kd.R_mono (Kd.R_far (p := ⟨gb884, 3, none⟩) (Kd.R_far (p := ⟨gb884, 2, none⟩) (Kd.R_far (p := ⟨gb884, 1, none⟩) (Kd.R_far (p := ⟨gb884, 0, none⟩) (Kd.R_mono HO_5.out (fun k_ hk => (⟨hk, hk.2⟩ : _ ∧ k_ ≠ gb884))) (fun _ hk => hk.2) (.string ((rd_T43 t880 x17_1).f0))) (fun _ hk => hk.2) (.int .u16 ((rd_T43 t880 x17_1).f1))) (fun _ hk => hk.2) (.int .u32 ((rd_T43 t880 x17_1).f2))) (fun _ hk => hk.2) (.string ((rd_T43 t880 x17_1).f3))) (fun _ h_ => h_.1))) (Kd.R_base ho25) hb); have n1_ := Aside0.mk (Kd.R_elder' (by (with_reducible repeat (first | apply Kd.R_alloc | apply Kd.R_drewN | apply Kd.R_drew)); exact (Kd.R_mono (Kd.R_far (p := ⟨gb884, 3, none⟩) (Kd.R_far (p := ⟨gb884, 2, none⟩) (Kd.R_far (p := ⟨gb884, 1, none⟩) (Kd.R_far (p := ⟨gb884, 0, none⟩) (Kd.R_mono HO_15.out (fun k_ hk => (⟨hk, hk.2⟩ : _ ∧ k_ ≠ gb884))) (fun _ hk => hk.2) (.string ((rd_T43 t880 x17_1).f0))) (fun _ hk => hk.2) (.int .u16 ((rd_T43 t880 x17_1).f1))) (fun _ hk => hk.2) (.int .u32 ((rd_T43 t880 x17_1).f2))) (fun _ hk => hk.2) (.string ((rd_T43 t880 x17_1).f3))) (fun _ h_ => h_.1))) (Kd.R_base ho25) hb); have n2_ := Aside0.mk (Kd.R_lower (Kd.R_newB (Kd.R_new' (Kd.R_new' ho25 (Kd.R_lt (by (with_reducible repeat (first | apply Kd.R_alloc | apply Kd.R_drewN | apply Kd.R_drew)); exact (Kd.R_mono (Kd.R_far (p := ⟨gb884, 3, none⟩) (Kd.R_far (p := ⟨gb884, 2, none⟩) (Kd.R_far (p := ⟨gb884, 1, none⟩) (Kd.R_far (p := ⟨gb884, 0, none⟩) (Kd.R_mono HO_5.out (fun k_ hk => (⟨hk, hk.2⟩ : _ ∧ k_ ≠ gb884))) (fun _ hk => hk.2) (.string ((rd_T43 t880 x17_1).f0))) (fun _ hk => hk.2) (.int .u16 ((rd_T43 t880 x17_1).f1))) (fun _ hk => hk.2) (.int .u32 ((rd_T43 t880 x17_1).f2))) (fun _ hk => hk.2) (.string ((rd_T43 t880 x17_1).f3))) (fun _ h_ => h_.1))))) (Kd.R_lt (by (with_reducible repeat (first | apply Kd.R_alloc | apply Kd.R_drewN | apply Kd.R_drew)); exact (Kd.R_mono (Kd.R_far (p := ⟨gb884, 3, none⟩) (Kd.R_far (p := ⟨gb884, 2, none⟩) (Kd.R_far (p := ⟨gb884, 1, none⟩) (Kd.R_far (p := ⟨gb884, 0, none⟩) (Kd.R_mono HO_15.out (fun k_ hk => (⟨hk, hk.2⟩ : _ ∧ k_ ≠ gb884))) (fun _ hk => hk.2) (.string ((rd_T43 t880 x17_1).f0))) (fun _ hk => hk.2) (.int .u16 ((rd_T43 t880 x17_1).f1))) (fun _ hk => hk.2) (.int .u32 ((rd_T43 t880 x17_1).f2))) (fun _ hk => hk.2) (.string ((rd_T43 t880 x17_1).f3))) (fun _ h_ => h_.1))))) (g := gb884) (o := .cells #[.string ((rd_T43 t880 x17_1).f0), .int .u16 ((rd_T43 t880 x17_1).f1), .int .u32 ((rd_T43 t880 x17_1).f2), .string ((rd_T43 t880 x17_1).f3)] 43 (0, 0)) (by (with_reducible repeat (first | refine blk_drewN ?_ _ | refine blk_drew ?_ | refine blk_alloc ?_ _)); refine blk_put (cs := #[.string ((rd_T43 t880 x17_1).f0), .int .u16 ((rd_T43 t880 x17_1).f1), .int .u32 ((rd_T43 t880 x17_1).f2), .string (⟨#[]⟩ : ByteArray)]) ?_ 3 _ rfl; (with_reducible repeat (first | refine blk_drewN ?_ _ | refine blk_drew ?_ | refine blk_alloc ?_ _)); refine blk_put (cs := #[.string ((rd_T43 t880 x17_1).f0), .int .u16 ((rd_T43 t880 x17_1).f1), .int .u32 0, .string (⟨#[]⟩ : ByteArray)]) ?_ 2 _ rfl; (with_reducible repeat (first | refine blk_drewN ?_ _ | refine blk_drew ?_ | refine blk_alloc ?_ _)); refine blk_put (cs := #[.string ((rd_T43 t880 x17_1).f0), .int .u16 0, .int .u32 0, .string (⟨#[]⟩ : ByteArray)]) ?_ 1 _ rfl; (with_reducible repeat (first | refine blk_drewN ?_ _ | refine blk_drew ?_ | refine blk_alloc ?_ _)); refine blk_put (cs := #[.string (⟨#[]⟩ : ByteArray), .int .u16 0, .int .u32 0, .string (⟨#[]⟩ : ByteArray)]) ?_ 0 _ rfl; (with_reducible repeat (first | refine blk_drewN ?_ _ | refine blk_drew ?_ | refine blk_alloc ?_ _)); exact BK884.out)) (below_size (by repeat (first | (with_reducible first | exact HB.out | apply below_alloc | apply pw_below_drewN | apply below_drew1 | refine below_set ?_ GE884.out) | exact HB.out)))); have n3_ := Aside0.mk (blk_below (g := gb884) (o := .cells #[.string ((rd_T43 t880 x17_1).f0), .int .u16 ((rd_T43 t880 x17_1).f1), .int .u32 ((rd_T43 t880 x17_1).f2), .string ((rd_T43 t880 x17_1).f3)] 43 (0, 0)) (by (with_reducible repeat (first | refine blk_drewN ?_ _ | refine blk_drew ?_ | refine blk_alloc ?_ _)); refine blk_put (cs := #[.string ((rd_T43 t880 x17_1).f0), .int .u16 ((rd_T43 t880 x17_1).f1), .int .u32 ((rd_T43 t880 x17_1).f2), .string (⟨#[]⟩ : ByteArray)]) ?_ 3 _ rfl; (with_reducible repeat (first | refine blk_drewN ?_ _ | refine blk_drew ?_ | refine blk_alloc ?_ _)); refine blk_put (cs := #[.string ((rd_T43 t880 x17_1).f0), .int .u16 ((rd_T43 t880 x17_1).f1), .int .u32 0, .string (⟨#[]⟩ : ByteArray)]) ?_ 2 _ rfl; (with_reducible repeat (first | refine blk_drewN ?_ _ | refine blk_drew ?_ | refine blk_alloc ?_ _)); refine blk_put (cs := #[.string ((rd_T43 t880 x17_1).f0), .int .u16 0, .int .u32 0, .string (⟨#[]⟩ : ByteArray)]) ?_ 1 _ rfl; (with_reducible repeat (first | refine blk_drewN ?_ _ | refine blk_drew ?_ | refine blk_alloc ?_ _)); refine blk_put (cs := #[.string (⟨#[]⟩ : ByteArray), .int .u16 0, .int .u32 0, .string (⟨#[]⟩ : ByteArray)]) ?_ 0 _ rfl; (with_reducible repeat (first | refine blk_drewN ?_ _ | refine blk_drew ?_ | refine blk_alloc ?_ _)); exact BK884.out) hb); have n4_ := Aside0.mk (below_step (by repeat (first | (with_reducible first | exact HB.out | apply below_alloc | apply pw_below_drewN | apply below_drew1 | refine below_set ?_ GE884.out) | exact HB.out)) hb); clear HO_5; clear HO_15; clear BK884; clear HB; have HO_5 := n0_; have HO_15 := n1_; have HO887 := n2_; have BK884 := n3_; have HB := n4_; clear n0_ n1_ n2_ n3_ n4_; clear hb ho25; obtain ⟨Ao27, co27, eo27⟩ := Kd.R_slice HO887.out; subst eo27) | ((with_reducible refine gate_builtin (b := .append) (xs := #[.tmp 34, .tmp 36]) rfl ?_); at_builtin; refine Kd.R_append_rows k43 (w0 := w) w.heap.size rfl (.tmp 34) (.tmp 36) 26 43 (.agg #[(.string ⟨#[]⟩), (.int .u16 0), (.int .u32 0), (.string ⟨#[]⟩)]) 40 rfl Try.underlying26 info43 rfl (by decide) (by omega) u5 x5_1 y885 _ _ _ (fun k_ => nb (.slice (some ad883) t880.length co8) k_ ∧ nb (.slice Ao27 y885.length co27) k_ ∧ k_ ≠ gb884) (fun _ => False) rfl rfl ?aO ?aR (fun _ _ h => h) (fun _ h => h.elim) ?aF ?aB ?aS ?aL ?_; (case aR => repeat (first | exact (Kd.R_reads' HO887.out).2.2 | (with_reducible refine Kd.C_alloc ?_ _) | (with_reducible refine Kd.C_drewN ?_ _) | (with_reducible refine Kd.C_drew ?_))); (case aB => exact (by repeat (first | (with_reducible first | exact HB.out | apply below_alloc | apply pw_below_drewN | apply below_drew1 | refine below_set ?_ GE884.out) | exact HB.out))); (case aF => exact (fun k_ hk => ⟨Kd.fresh' (Kd.R_lt (by (with_reducible repeat (first | apply Kd.R_alloc | apply Kd.R_drewN | apply Kd.R_drew)); exact HO_15.out)) k_ hk, Kd.fresh' (Kd.R_lt (by (with_reducible repeat (first | apply Kd.R_alloc | apply Kd.R_drewN | apply Kd.R_drew)); exact HO887.out)) k_ hk, Kd.freshB (g := gb884) (o := .cells #[.string ((rd_T43 t880 x17_1).f0), .int .u16 ((rd_T43 t880 x17_1).f1), .int .u32 ((rd_T43 t880 x17_1).f2), .string ((rd_T43 t880 x17_1).f3)] 43 (0, 0)) (by (with_reducible repeat (first | refine blk_drewN ?_ _ | refine blk_drew ?_ | refine blk_alloc ?_ _)); exact BK884.out) k_ hk⟩)); (case aO => exact (by (with_reducible repeat (first | apply Kd.R_alloc | apply Kd.R_drewN | apply Kd.R_drew)); exact Kd.R_mono HO_5.out (fun _ hk => ⟨hk.1.1, ⟨hk.2, hk.1.2⟩⟩))); (case aS => exact (below_size (by repeat (first | (with_reducible first | exact HB.out | apply below_alloc | apply pw_below_drewN | apply below_drew1 | refine below_set ?_ GE884.out) | exact HB.out)))); (case aL => have := LMc21.out; omega); intro v889 w26 ho hb hg hat; rw [← Ny888.out] at ho; have n0_ := Aside0.mk (Kd.R_after (ok := (fun k_ => nb (.slice Ao27 y885.length co27) k_ ∧ k_ ≠ gb884)) (by (with_reducible repeat (first | apply Kd.R_alloc | apply Kd.R_drewN | apply Kd.R_drew)); exact Kd.R_mono HO_15.out (fun _ hk => ⟨⟨hk.2, hk.1.2⟩, hk.1.1⟩)) hg hat); have n1_ := Aside0.mk (blk_grown (g := gb884) (o := .cells #[.string ((rd_T43 t880 x17_1).f0), .int .u16 ((rd_T43 t880 x17_1).f1), .int .u32 ((rd_T43 t880 x17_1).f2), .string ((rd_T43 t880 x17_1).f3)] 43 (0, 0)) (by (with_reducible repeat (first | refine blk_drewN ?_ _ | refine blk_drew ?_ | refine blk_alloc ?_ _)); exact BK884.out) hg (Kd.R_away HO_5.out (fun _ hk => hk.1.2))); have n2_ := Aside0.mk (Kd.R_after (ok := (fun k_ => nb (.slice (some ad883) t880.length co8) k_ ∧ k_ ≠ gb884)) (by (with_reducible repeat (first | apply Kd.R_alloc | apply Kd.R_drewN | apply Kd.R_drew)); exact Kd.R_mono HO887.out (fun _ hk => ⟨⟨hk.1.2, hk.2⟩, hk.1.1.2⟩)) hg hat); have n3_ := Aside0.mk (hb); have n4_ := Aside0.mk (ho); clear HO_15; clear BK884; clear HO887; clear HB; clear HO_5; have HO_15 := n0_; have BK884 := n1_; have HO887 := n2_; have HB := n3_; have HO890 := n4_; clear n0_ n1_ n2_ n3_ n4_; clear ho hb hg hat))
    go_roundg k1
    case measure => have := HK1.out; omega
    case rel => exact ⟨(y888), (wrap64 (x17_1 + 1)), (by first | rfl | (simp; done) | (simp [*]; done)), H', ⟨by have := HK1.out; omega⟩, ⟨by (with_reducible repeat (first | apply Kd.R_alloc | apply Kd.R_drewN | apply Kd.R_drew)); exact Kd.R_mono HO890.out (fun _ hk => hk.1)⟩, ⟨by (with_reducible repeat (first | apply Kd.R_alloc | apply Kd.R_drewN | apply Kd.R_drew)); exact Kd.R_mono HO_15.out (fun _ hk => hk.2)⟩, ⟨by repeat (first | (with_reducible first | exact HB.out | apply below_alloc | apply pw_below_drewN | apply below_drew1 | refine below_set ?_ GE884.out) | exact HB.out)⟩⟩
   rw [if_neg c9] at H
   have c9b0 : decide (x17_1 < (t880.length : Int)) = false := decide_eq_false c9
   clear c9
   replace H := Option.bind_eq_some_iff.mp H
   obtain ⟨⟨t891, t892, t893, t894, t897⟩, A280, H⟩ := H
   replace H : (if (x5_1.length : Int) = 0 then (some (!t897)) else (if ([] : List (S43)).length + x5_1.length < 3518437208883 then ((some (([] : List (S43)) ++ x5_1 : List (S43))).bind fun y899 => ((some (([5, 6, 2] : List Int) : List Int)).bind fun y902 => (if 0 ≤ (Int.tmod a1 3) then (if (Int.tmod a1 3) < (y902.length : Int) then ((some (([(⟨(⟨#[]⟩ : ByteArray), rd y902 (Int.tmod a1 3), 0, (⟨#[]⟩ : ByteArray)⟩ : S43)] : List (S43)) : List (S43))).bind fun y906 => (if y899.length + y906.length < 3518437208883 then ((action_Of.f k1 (y899 ++ y906)).bind fun bt912 => (if t897 = true then (if t891 = 8 then ((bolterlaw05_SameRecords.f k1 t894 x5_1).bind fun t920 => (if t920 = true then (if bt912.2.2.2.2 = true then (some false) else ((action_Same.f k1 bt912.1 bt912.2.1 bt912.2.2.1 bt912.2.2.2.1 0 (⟨#[]⟩ : ByteArray) false ([] : List (S43))).bind fun t921 => (some t921))) else (some false))) else (some false)) else (some false))) else (none))) else (none)) else (none)))) else (none))) = some r := H
   have A28 := Aside0.mk A280
   clear A280
   by_cases c29 : (x5_1.length : Int) = 0
   ·rw [if_pos c29] at H
    have c29b0 : ((x5_1.length : Int) == 0) = true := beq_iff_eq.mpr c29
    have c29b1 : ((x5_1.length : Int) != 0) = false := bne_eq_false_iff_eq.mpr c29
    clear c29
    obtain rfl := Option.some.inj H
    obtain ⟨Ao30, co30, eo30⟩ := Kd.R_slice HO_5.out
    subst eo30
    go_wp2_with (first | ((with_reducible refine gate_callee (f := 19) rfl ?_); refine goesL_ (some 41) rfl rfl Try.func19 (by kernel_rfl) rfl #[.slice Ao30 x5_1.length co30] rfl (by (try simp only [List.map_toArray, List.map_cons, List.map_nil]); first | done | rfl | (simp only [List.length_drop, List.length_take]; rfl)) ?_; (with_reducible refine (action_Of.calls k1 _ _ x5_1 t891 t892 t893 t894 t897 _ ?side1 ?side2 A28.out).mono ?_); (case side1 => repeat (first | exact (Kd.R_reads' HO_5.out).2.2 | (with_reducible refine Kd.C_alloc ?_ _) | (with_reducible refine Kd.C_drewN ?_ _) | (with_reducible refine Kd.C_drew ?_))); (case side2 => exact (Kd.R_reads' HO_5.out).2.1); rintro e w31 ⟨v895, rfl, ho0, hb⟩; refine ⟨_, rfl, ?_⟩; have n0_ := Aside0.mk (Kd.R_elder' HO_5.out (Kd.R_base ho0) hb); have n1_ := Aside0.mk (Kd.R_elder' HO_15.out (Kd.R_base ho0) hb); have n2_ := Aside0.mk (Kd.R_lower (Kd.R_new' (Kd.R_new' ho0 (Kd.R_lt HO_5.out)) (Kd.R_lt HO_15.out)) (below_size HB.out)); have n3_ := Aside0.mk (below_step HB.out hb); clear HO_5; clear HO_15; clear HB; have HO_5 := n0_; have HO_15 := n1_; have HO896 := n2_; have HB := n3_; clear n0_ n1_ n2_ n3_; (try clear hb); (try clear hb2); (try clear hk); (try clear hi); (try clear ho0)) | ((with_reducible refine gate_dst (N := 8) rfl ?_); refine box_event ?hg (N := 8) ?hd (cs := #[.int .i64 0, .string (⟨#[]⟩ : ByteArray), .bool false, .slice none 0 0]) (t := 28) ?hr ?_; (case hd => rfl); (case hg => rfl); (case hr => first | (go_simp; done) | (go_simp; rfl)); intro gb898 hg w32 hbox hb; have n0_ := Aside0.mk (Kd.R_below HO_5.out hb); have n1_ := Aside0.mk (Kd.R_below HO_15.out hb); have n2_ := Aside0.mk (Kd.R_below HO896.out hb); have n3_ := Aside0.mk (below_step HB.out hb); have n4_ := Aside0.mk (hbox); have n5_ := Aside0.mk ((by rw [hg]; exact (below_size HB.out) : w.heap.size ≤ gb898)); have n6_ := Aside0.mk ((by rw [hg]; exact (below_size HB.out) : w.heap.size ≤ gb898)); clear HO_5; clear HO_15; clear HO896; clear HB; have HO_5 := n0_; have HO_15 := n1_; have HO896 := n2_; have HB := n3_; have BK898 := n4_; have GW898 := n5_; have GE898 := n6_; clear n0_ n1_ n2_ n3_ n4_ n5_ n6_; clear hb hbox hg; have hcz33_0 : w32.cell? ⟨gb898, 0, none⟩ = some (.int .i64 0) := (blk_cell BK898.out 0).trans rfl; have hcz33_1 : w32.cell? ⟨gb898, 1, none⟩ = some (.string (⟨#[]⟩ : ByteArray)) := (blk_cell BK898.out 1).trans rfl; have hcz33_2 : w32.cell? ⟨gb898, 2, none⟩ = some (.bool false) := (blk_cell BK898.out 2).trans rfl; have hcz33_3 : w32.cell? ⟨gb898, 3, none⟩ = some (.slice none 0 0) := (blk_cell BK898.out 3).trans rfl; have hfz33_0 := blk_frozen BK898.out 0; have hfz33_1 := blk_frozen BK898.out 1; have hfz33_2 := blk_frozen BK898.out 2; have hfz33_3 := blk_frozen BK898.out 3; obtain ⟨Ao34, co34, eo34⟩ := Kd.R_slice HO896.out; subst eo34))
    go_ret
    exact ⟨by first | rfl | (simp [errW_none, errW_some] <;> rfl) | (simp [*, errW_none, errW_some] <;> rfl), by repeat (first | (with_reducible first | exact HB.out | apply below_alloc | apply pw_below_drewN | apply below_drew1 | refine below_set ?_ GE898.out) | exact HB.out)⟩
   rw [if_neg c29] at H
   have c29b0 : ((x5_1.length : Int) == 0) = false := beq_eq_false_iff_ne.mpr c29
   have c29b1 : ((x5_1.length : Int) != 0) = true := bne_iff_ne.mpr c29
   have c29b2 : ¬ (x5_1 = []) := fun h_ => c29 (by rw [h_]; rfl)
   by_cases c35 : ([] : List (S43)).length + x5_1.length < 3518437208883
   rotate_left
   ·rw [if_neg c35] at H
    exact absurd H (by simp)
   rw [if_pos c35] at H
   have LMc35 := Aside0.mk c35
   clear c35
   obtain ⟨y899, hy899⟩ : ∃ y_ : List (S43), y_ = (([] : List (S43)) ++ x5_1) := ⟨_, rfl⟩
   replace H : ((some (([5, 6, 2] : List Int) : List Int)).bind fun y902 => (if 0 ≤ (Int.tmod a1 3) then (if (Int.tmod a1 3) < (y902.length : Int) then ((some (([(⟨(⟨#[]⟩ : ByteArray), rd y902 (Int.tmod a1 3), 0, (⟨#[]⟩ : ByteArray)⟩ : S43)] : List (S43)) : List (S43))).bind fun y906 => (if y899.length + y906.length < 3518437208883 then ((action_Of.f k1 (y899 ++ y906)).bind fun bt912 => (if t897 = true then (if t891 = 8 then ((bolterlaw05_SameRecords.f k1 t894 x5_1).bind fun t920 => (if t920 = true then (if bt912.2.2.2.2 = true then (some false) else ((action_Same.f k1 bt912.1 bt912.2.1 bt912.2.2.1 bt912.2.2.2.1 0 (⟨#[]⟩ : ByteArray) false ([] : List (S43))).bind fun t921 => (some t921))) else (some false))) else (some false)) else (some false))) else (none))) else (none)) else (none))) = some r := by first | (rw [hy899]; with_reducible exact H) | (have H2_ := (Option.bind_some _ _).symm.trans H; rw [hy899]; with_reducible exact H2_) | (have H2_ := (Option.bind_some _ _).symm.trans H; with_reducible exact H2_) | with_reducible exact H | (rw [hy899]; exact H) | exact H
   have Ny899 := Aside0.mk hy899
   clear hy899
   obtain ⟨y902, hy902⟩ : ∃ y_ : List Int, y_ = (([5, 6, 2] : List Int)) := ⟨_, rfl⟩
   replace H : (if 0 ≤ (Int.tmod a1 3) then (if (Int.tmod a1 3) < (y902.length : Int) then ((some (([(⟨(⟨#[]⟩ : ByteArray), rd y902 (Int.tmod a1 3), 0, (⟨#[]⟩ : ByteArray)⟩ : S43)] : List (S43)) : List (S43))).bind fun y906 => (if y899.length + y906.length < 3518437208883 then ((action_Of.f k1 (y899 ++ y906)).bind fun bt912 => (if t897 = true then (if t891 = 8 then ((bolterlaw05_SameRecords.f k1 t894 x5_1).bind fun t920 => (if t920 = true then (if bt912.2.2.2.2 = true then (some false) else ((action_Same.f k1 bt912.1 bt912.2.1 bt912.2.2.1 bt912.2.2.2.1 0 (⟨#[]⟩ : ByteArray) false ([] : List (S43))).bind fun t921 => (some t921))) else (some false))) else (some false)) else (some false))) else (none))) else (none)) else (none)) = some r := by first | (rw [hy902]; with_reducible exact H) | (have H2_ := (Option.bind_some _ _).symm.trans H; rw [hy902]; with_reducible exact H2_) | (have H2_ := (Option.bind_some _ _).symm.trans H; with_reducible exact H2_) | with_reducible exact H | (rw [hy902]; exact H) | exact H
   have Ny902 := Aside0.mk hy902
   clear hy902
   obtain ⟨ji36, hji36⟩ : ∃ j_ : Int, (Int.tmod a1 3) = j_ := ⟨_, rfl⟩
   replace H : (if 0 ≤ (ji36) then (if (ji36) < (y902.length : Int) then ((some (([(⟨(⟨#[]⟩ : ByteArray), rd y902 (ji36), 0, (⟨#[]⟩ : ByteArray)⟩ : S43)] : List (S43)) : List (S43))).bind fun y906 => (if y899.length + y906.length < 3518437208883 then ((action_Of.f k1 (y899 ++ y906)).bind fun bt912 => (if t897 = true then (if t891 = 8 then ((bolterlaw05_SameRecords.f k1 t894 x5_1).bind fun t920 => (if t920 = true then (if bt912.2.2.2.2 = true then (some false) else ((action_Same.f k1 bt912.1 bt912.2.1 bt912.2.2.1 bt912.2.2.2.1 0 (⟨#[]⟩ : ByteArray) false ([] : List (S43))).bind fun t921 => (some t921))) else (some false))) else (some false)) else (some false))) else (none))) else (none)) else (none)) = some r := by first | (rw [hji36] at H; exact H) | (simp only [hji36] at H ⊢; exact H)
   (try rw [hji36] at A28)
   by_cases c37 : 0 ≤ (ji36)
   rotate_left
   ·rw [if_neg c37] at H
    exact absurd H (by simp)
   rw [if_pos c37] at H
   have c37b0 : decide (0 ≤ (ji36)) = true := decide_eq_true c37
   clear c37
   by_cases c38 : (ji36) < (y902.length : Int)
   rotate_left
   ·rw [if_neg c38] at H
    exact absurd H (by simp)
   rw [if_pos c38] at H
   have c38b0 : decide ((ji36) < (y902.length : Int)) = true := decide_eq_true c38
   clear c38
   obtain ⟨y906, hy906⟩ : ∃ y_ : List (S43), y_ = (([(⟨(⟨#[]⟩ : ByteArray), rd y902 (ji36), 0, (⟨#[]⟩ : ByteArray)⟩ : S43)] : List (S43))) := ⟨_, rfl⟩
   replace H : (if y899.length + y906.length < 3518437208883 then ((action_Of.f k1 (y899 ++ y906)).bind fun bt912 => (if t897 = true then (if t891 = 8 then ((bolterlaw05_SameRecords.f k1 t894 x5_1).bind fun t920 => (if t920 = true then (if bt912.2.2.2.2 = true then (some false) else ((action_Same.f k1 bt912.1 bt912.2.1 bt912.2.2.1 bt912.2.2.2.1 0 (⟨#[]⟩ : ByteArray) false ([] : List (S43))).bind fun t921 => (some t921))) else (some false))) else (some false)) else (some false))) else (none)) = some r := by first | (rw [hy906]; with_reducible exact H) | (have H2_ := (Option.bind_some _ _).symm.trans H; rw [hy906]; with_reducible exact H2_) | (have H2_ := (Option.bind_some _ _).symm.trans H; with_reducible exact H2_) | with_reducible exact H | (rw [hy906]; exact H) | exact H
   have Ny906 := Aside0.mk hy906
   clear hy906
   by_cases c39 : y899.length + y906.length < 3518437208883
   rotate_left
   ·rw [if_neg c39] at H
    exact absurd H (by simp)
   rw [if_pos c39] at H
   have LMc39 := Aside0.mk c39
   clear c39
   obtain ⟨y909, hy909⟩ : ∃ y_ : List (S43), y_ = (y899 ++ y906) := ⟨_, rfl⟩
   replace H : ((action_Of.f k1 y909).bind fun bt912 => (if t897 = true then (if t891 = 8 then ((bolterlaw05_SameRecords.f k1 t894 x5_1).bind fun t920 => (if t920 = true then (if bt912.2.2.2.2 = true then (some false) else ((action_Same.f k1 bt912.1 bt912.2.1 bt912.2.2.1 bt912.2.2.2.1 0 (⟨#[]⟩ : ByteArray) false ([] : List (S43))).bind fun t921 => (some t921))) else (some false))) else (some false)) else (some false))) = some r := by first | (rw [hy909]; with_reducible exact H) | (have H2_ := (Option.bind_some _ _).symm.trans H; rw [hy909]; with_reducible exact H2_) | (have H2_ := (Option.bind_some _ _).symm.trans H; with_reducible exact H2_) | with_reducible exact H | (rw [hy909]; exact H) | exact H
   have Ny909 := Aside0.mk hy909
   clear hy909
   replace H := Option.bind_eq_some_iff.mp H
   obtain ⟨⟨t912, t913, t914, t915, t918⟩, A400, H⟩ := H
   replace H : (if t897 = true then (if t891 = 8 then ((bolterlaw05_SameRecords.f k1 t894 x5_1).bind fun t920 => (if t920 = true then (if t918 = true then (some false) else ((action_Same.f k1 t912 t913 t914 t915 0 (⟨#[]⟩ : ByteArray) false ([] : List (S43))).bind fun t921 => (some t921))) else (some false))) else (some false)) else (some false)) = some r := H
   have A40 := Aside0.mk A400
   clear A400
   by_cases c41 : t897 = true
   rotate_left
   ·replace c41 := Bool.eq_false_iff.mpr c41
    subst c41
    have H1 : (some false) = some r := by rw [if_neg (show ¬ (false = true) by decide)] at H; exact H
    clear H
    have H := H1
    clear H1
    obtain rfl := Option.some.inj H
    exact absurd hT Bool.false_ne_true
   subst c41
   have H1 : (if t891 = 8 then ((bolterlaw05_SameRecords.f k1 t894 x5_1).bind fun t920 => (if t920 = true then (if t918 = true then (some false) else ((action_Same.f k1 t912 t913 t914 t915 0 (⟨#[]⟩ : ByteArray) false ([] : List (S43))).bind fun t921 => (some t921))) else (some false))) else (some false)) = some r := by rw [if_pos rfl] at H; exact H
   clear H
   have H := H1
   clear H1
   by_cases c42 : t891 = 8
   rotate_left
   ·rw [if_neg c42] at H
    have c42b0 : (t891 == 8) = false := beq_eq_false_iff_ne.mpr c42
    have c42b1 : (t891 != 8) = true := bne_iff_ne.mpr c42
    obtain rfl := Option.some.inj H
    exact absurd hT Bool.false_ne_true
   rw [if_pos c42] at H
   have c42b0 : (t891 == 8) = true := beq_iff_eq.mpr c42
   have c42b1 : (t891 != 8) = false := bne_eq_false_iff_eq.mpr c42
   clear c42
   replace H := Option.bind_eq_some_iff.mp H
   obtain ⟨t920, A430, H⟩ := H
   replace H : (if t920 = true then (if t918 = true then (some false) else ((action_Same.f k1 t912 t913 t914 t915 0 (⟨#[]⟩ : ByteArray) false ([] : List (S43))).bind fun t921 => (some t921))) else (some false)) = some r := H
   have A43 := Aside0.mk A430
   clear A430
   by_cases c44 : t920 = true
   rotate_left
   ·replace c44 := Bool.eq_false_iff.mpr c44
    subst c44
    have H1 : (some false) = some r := by rw [if_neg (show ¬ (false = true) by decide)] at H; exact H
    clear H
    have H := H1
    clear H1
    obtain rfl := Option.some.inj H
    exact absurd hT Bool.false_ne_true
   subst c44
   have H1 : (if t918 = true then (some false) else ((action_Same.f k1 t912 t913 t914 t915 0 (⟨#[]⟩ : ByteArray) false ([] : List (S43))).bind fun t921 => (some t921))) = some r := by rw [if_pos rfl] at H; exact H
   clear H
   have H := H1
   clear H1
   by_cases c45 : t918 = true
   ·subst c45
    have H1 : (some false) = some r := by rw [if_pos rfl] at H; exact H
    clear H
    have H := H1
    clear H1
    obtain rfl := Option.some.inj H
    exact absurd hT Bool.false_ne_true
   replace c45 := Bool.eq_false_iff.mpr c45
   subst c45
   have H1 : ((action_Same.f k1 t912 t913 t914 t915 0 (⟨#[]⟩ : ByteArray) false ([] : List (S43))).bind fun t921 => (some t921)) = some r := by rw [if_neg (show ¬ (false = true) by decide)] at H; exact H
   clear H
   have H := H1
   clear H1
   replace H := Option.bind_eq_some_iff.mp H
   obtain ⟨t921, A460, H⟩ := H
   replace H : (some t921) = some r := H
   have A46 := Aside0.mk A460
   clear A460
   obtain rfl := Option.some.inj H
   obtain ⟨Ao47, co47, eo47⟩ := Kd.R_slice HO_5.out
   subst eo47
   try go_wp2_with (first | ((with_reducible refine gate_callee (f := 19) rfl ?_); refine goesL_ (some 41) rfl rfl Try.func19 (by kernel_rfl) rfl #[.slice Ao47 x5_1.length co47] rfl (by (try simp only [List.map_toArray, List.map_cons, List.map_nil]); first | done | rfl | (simp only [List.length_drop, List.length_take]; rfl)) ?_; (with_reducible refine (action_Of.calls k1 _ _ x5_1 t891 t892 t893 t894 true _ ?side1 ?side2 A28.out).mono ?_); (case side1 => repeat (first | exact (Kd.R_reads' HO_5.out).2.2 | (with_reducible refine Kd.C_alloc ?_ _) | (with_reducible refine Kd.C_drewN ?_ _) | (with_reducible refine Kd.C_drew ?_))); (case side2 => exact (Kd.R_reads' HO_5.out).2.1); rintro e w48 ⟨v895, rfl, ho0, hb⟩; refine ⟨_, rfl, ?_⟩; have n0_ := Aside0.mk (Kd.R_elder' HO_5.out (Kd.R_base ho0) hb); have n1_ := Aside0.mk (Kd.R_elder' HO_15.out (Kd.R_base ho0) hb); have n2_ := Aside0.mk (Kd.R_lower (Kd.R_new' (Kd.R_new' ho0 (Kd.R_lt HO_5.out)) (Kd.R_lt HO_15.out)) (below_size HB.out)); have n3_ := Aside0.mk (below_step HB.out hb); clear HO_5; clear HO_15; clear HB; have HO_5 := n0_; have HO_15 := n1_; have HO896 := n2_; have HB := n3_; clear n0_ n1_ n2_ n3_; (try clear hb); (try clear hb2); (try clear hk); (try clear hi); (try clear ho0)) | ((with_reducible refine gate_dst (N := 8) rfl ?_); refine box_event ?hg (N := 8) ?hd (cs := #[.int .i64 0, .string (⟨#[]⟩ : ByteArray), .bool false, .slice none 0 0]) (t := 28) ?hr ?_; (case hd => rfl); (case hg => rfl); (case hr => first | (go_simp; done) | (go_simp; rfl)); intro gb898 hg w49 hbox hb; have n0_ := Aside0.mk (Kd.R_below HO_5.out hb); have n1_ := Aside0.mk (Kd.R_below HO_15.out hb); have n2_ := Aside0.mk (Kd.R_below HO896.out hb); have n3_ := Aside0.mk (below_step HB.out hb); have n4_ := Aside0.mk (hbox); have n5_ := Aside0.mk ((by rw [hg]; exact (below_size HB.out) : w.heap.size ≤ gb898)); have n6_ := Aside0.mk ((by rw [hg]; exact (below_size HB.out) : w.heap.size ≤ gb898)); clear HO_5; clear HO_15; clear HO896; clear HB; have HO_5 := n0_; have HO_15 := n1_; have HO896 := n2_; have HB := n3_; have BK898 := n4_; have GW898 := n5_; have GE898 := n6_; clear n0_ n1_ n2_ n3_ n4_ n5_ n6_; clear hb hbox hg; have hcz50_0 : w49.cell? ⟨gb898, 0, none⟩ = some (.int .i64 0) := (blk_cell BK898.out 0).trans rfl; have hcz50_1 : w49.cell? ⟨gb898, 1, none⟩ = some (.string (⟨#[]⟩ : ByteArray)) := (blk_cell BK898.out 1).trans rfl; have hcz50_2 : w49.cell? ⟨gb898, 2, none⟩ = some (.bool false) := (blk_cell BK898.out 2).trans rfl; have hcz50_3 : w49.cell? ⟨gb898, 3, none⟩ = some (.slice none 0 0) := (blk_cell BK898.out 3).trans rfl; have hfz50_0 := blk_frozen BK898.out 0; have hfz50_1 := blk_frozen BK898.out 1; have hfz50_2 := blk_frozen BK898.out 2; have hfz50_3 := blk_frozen BK898.out 3; obtain ⟨Ao51, co51, eo51⟩ := Kd.R_slice HO896.out; subst eo51))
   have pi905 : (0 ≤ ((ji36) : Int)) = True := eq_true (of_decide_eq_true (by first | (with_reducible assumption) | assumption))
   have qi905 : ((ji36) < (y902.length : Int)) = True := eq_true (of_decide_eq_true (by first | (with_reducible assumption) | assumption))
   have n0_ : Aside0 (Kd.R k43 43 ((((w49.setCell ⟨gb898, 0, none⟩ (.int .i64 t891)).setCell ⟨gb898, 1, none⟩ (.string t892)).setCell ⟨gb898, 2, none⟩ (.bool t893)).setCell ⟨gb898, 3, none⟩ (.slice Ao51 t894.length co51)) w.heap.size (fun k_ => nb (.slice Ao8 t880.length co8) k_ ∧ nb (.slice Ao51 t894.length co51) k_) (.slice Ao47 x5_1.length co47) x5_1) := ⟨by (with_reducible repeat (first | apply Kd.R_alloc | apply Kd.R_drewN | apply Kd.R_drew)); exact Kd.R_mono (Kd.R_far (p := ⟨gb898, 3, none⟩) (Kd.R_far (p := ⟨gb898, 2, none⟩) (Kd.R_far (p := ⟨gb898, 1, none⟩) (Kd.R_far (p := ⟨gb898, 0, none⟩) (Kd.R_types HO_5.out BK898.out (by decide)) (fun _ hk => hk.2) (.int .i64 t891)) (fun _ hk => hk.2) (.string t892)) (fun _ hk => hk.2) (.bool t893)) (fun _ hk => hk.2) (.slice Ao51 t894.length co51)) (fun _ hk => ⟨hk.1.1, hk.1.2⟩)⟩
   have n1_ : Aside0 (Kd.R k43 43 ((((w49.setCell ⟨gb898, 0, none⟩ (.int .i64 t891)).setCell ⟨gb898, 1, none⟩ (.string t892)).setCell ⟨gb898, 2, none⟩ (.bool t893)).setCell ⟨gb898, 3, none⟩ (.slice Ao51 t894.length co51)) w.heap.size (fun k_ => nb (.slice Ao47 x5_1.length co47) k_ ∧ nb (.slice Ao51 t894.length co51) k_) (.slice Ao8 t880.length co8) t880) := ⟨by (with_reducible repeat (first | apply Kd.R_alloc | apply Kd.R_drewN | apply Kd.R_drew)); exact Kd.R_mono (Kd.R_far (p := ⟨gb898, 3, none⟩) (Kd.R_far (p := ⟨gb898, 2, none⟩) (Kd.R_far (p := ⟨gb898, 1, none⟩) (Kd.R_far (p := ⟨gb898, 0, none⟩) (Kd.R_types HO_15.out BK898.out (by decide)) (fun _ hk => hk.2) (.int .i64 t891)) (fun _ hk => hk.2) (.string t892)) (fun _ hk => hk.2) (.bool t893)) (fun _ hk => hk.2) (.slice Ao51 t894.length co51)) (fun _ hk => ⟨hk.1.1, hk.1.2⟩)⟩
   have n2_ : Aside0 (Kd.R k43 43 ((((w49.setCell ⟨gb898, 0, none⟩ (.int .i64 t891)).setCell ⟨gb898, 1, none⟩ (.string t892)).setCell ⟨gb898, 2, none⟩ (.bool t893)).setCell ⟨gb898, 3, none⟩ (.slice Ao51 t894.length co51)) w.heap.size (fun k_ => nb (.slice Ao47 x5_1.length co47) k_ ∧ nb (.slice Ao8 t880.length co8) k_) (.slice Ao51 t894.length co51) t894) := ⟨by (with_reducible repeat (first | apply Kd.R_alloc | apply Kd.R_drewN | apply Kd.R_drew)); exact Kd.R_mono (Kd.R_far (p := ⟨gb898, 3, none⟩) (Kd.R_far (p := ⟨gb898, 2, none⟩) (Kd.R_far (p := ⟨gb898, 1, none⟩) (Kd.R_far (p := ⟨gb898, 0, none⟩) (Kd.R_types HO896.out BK898.out (by decide)) (fun _ hk => hk.2) (.int .i64 t891)) (fun _ hk => hk.2) (.string t892)) (fun _ hk => hk.2) (.bool t893)) (fun _ hk => hk.2) (.slice Ao51 t894.length co51)) (fun _ hk => ⟨hk.1.1.2, hk.1.2⟩)⟩
   have n3_ : Aside0 (((((w49.setCell ⟨gb898, 0, none⟩ (.int .i64 t891)).setCell ⟨gb898, 1, none⟩ (.string t892)).setCell ⟨gb898, 2, none⟩ (.bool t893)).setCell ⟨gb898, 3, none⟩ (.slice Ao51 t894.length co51)).heap[gb898]? = some (.cells #[.int .i64 t891, .string t892, .bool t893, .slice Ao51 t894.length co51] 28 (0, 0))) := ⟨by (with_reducible repeat (first | refine blk_drewN ?_ _ | refine blk_drew ?_ | refine blk_alloc ?_ _)); refine blk_put (cs := #[.int .i64 t891, .string t892, .bool t893, .slice none 0 0]) ?_ 3 _ rfl; (with_reducible repeat (first | refine blk_drewN ?_ _ | refine blk_drew ?_ | refine blk_alloc ?_ _)); refine blk_put (cs := #[.int .i64 t891, .string t892, .bool false, .slice none 0 0]) ?_ 2 _ rfl; (with_reducible repeat (first | refine blk_drewN ?_ _ | refine blk_drew ?_ | refine blk_alloc ?_ _)); refine blk_put (cs := #[.int .i64 t891, .string (⟨#[]⟩ : ByteArray), .bool false, .slice none 0 0]) ?_ 1 _ rfl; (with_reducible repeat (first | refine blk_drewN ?_ _ | refine blk_drew ?_ | refine blk_alloc ?_ _)); refine blk_put (cs := #[.int .i64 0, .string (⟨#[]⟩ : ByteArray), .bool false, .slice none 0 0]) ?_ 0 _ rfl; (with_reducible repeat (first | refine blk_drewN ?_ _ | refine blk_drew ?_ | refine blk_alloc ?_ _)); exact BK898.out⟩
   have n4_ : Aside0 (Below w.heap.size w ((((w49.setCell ⟨gb898, 0, none⟩ (.int .i64 t891)).setCell ⟨gb898, 1, none⟩ (.string t892)).setCell ⟨gb898, 2, none⟩ (.bool t893)).setCell ⟨gb898, 3, none⟩ (.slice Ao51 t894.length co51))) := ⟨by repeat (first | (with_reducible first | exact HB.out | apply below_alloc | apply pw_below_drewN | apply below_drew1 | refine below_set ?_ GE898.out) | exact HB.out)⟩
   (try clear HO_5)
   (try clear HO_15)
   (try clear HO896)
   (try clear BK898)
   (try clear HB)
   generalize ((((w49.setCell ⟨gb898, 0, none⟩ (.int .i64 t891)).setCell ⟨gb898, 1, none⟩ (.string t892)).setCell ⟨gb898, 2, none⟩ (.bool t893)).setCell ⟨gb898, 3, none⟩ (.slice Ao51 t894.length co51)) = w52 at n0_ n1_ n2_ n3_ n4_ ⊢
   have HO_5 := n0_
   have HO_15 := n1_
   have HO896 := n2_
   have BK898 := n3_
   have HB := n4_
   clear n0_ n1_ n2_ n3_ n4_
   have n0_ := Aside0.mk (Kd.R_drew HO_5.out)
   have n1_ := Aside0.mk (Kd.R_drew HO_15.out)
   have n2_ := Aside0.mk (Kd.R_drew HO896.out)
   have n3_ := Aside0.mk (blk_drew BK898.out)
   have n4_ := Aside0.mk (below_drew1 HB.out)
   clear HO_5
   clear HO_15
   clear HO896
   clear BK898
   clear HB
   have HO_5 := n0_
   have HO_15 := n1_
   have HO896 := n2_
   have BK898 := n3_
   have HB := n4_
   clear n0_ n1_ n2_ n3_ n4_
   refine start_ (n := 17) (S := fun w' => True) (ds := []) #[false, false, false, false, false, false, false, false, false, false, false, false, false, false, false, false, false] (by kernel_rfl) rfl rfl trivial (fun hHeld => ?_); refine with_tabW bolterlaw14_ActionLocal.tab13 bolterlaw14_ActionLocal.bits13 (fun HT_ HW_ => ?_)
   generalize w52.drew = w53 at HO_5 HO_15 HO896 BK898 HB hHeld ⊢
   refine pure_ (i := 0) (N := some 50) (v := ?_) (a' := ?_) #[true, false, false, false, false, false, false, false, false, false, false, false, false, false, false, false, false] rfl rfl (any_of HT_.out (by kernel_rfl)) (fun _ _ _ h => h) (Or.inl ⟨by rfl, ?_⟩) ?_ ?_
   rotate_left
   ·intro w'
    go_simp
    with_reducible rfl
   rotate_left
   ·simp only [Act.put, List.setIfInBounds_toArray, List.set_cons_zero, List.set_cons_succ, i64_w, i32_w]
    rfl
   refine pure_ (i := 3) (N := some 53) (v := ?_) (a' := ?_) #[true, false, false, true, false, false, false, false, false, false, false, false, false, false, false, false, false] rfl rfl (any_of HT_.out (by kernel_rfl)) (fun _ _ _ h => h) (Or.inl ⟨by rfl, ?_⟩) ?_ ?_
   rotate_left
   ·intro w'
    go_simp
    with_reducible rfl
   rotate_left
   ·simp only [Act.put, List.setIfInBounds_toArray, List.set_cons_zero, List.set_cons_succ, i64_w, i32_w]
    rfl
   refine pure_ (i := 4) (N := some 54) (v := ?_) (a' := ?_) #[true, false, false, true, true, false, false, false, false, false, false, false, false, false, false, false, false] rfl rfl (any_of HT_.out (by kernel_rfl)) (fun _ _ _ h => h) (Or.inl ⟨by rfl, ?_⟩) ?_ ?_
   rotate_left
   ·intro w'
    go_simp
    with_reducible rfl
   rotate_left
   ·simp only [Act.put, List.setIfInBounds_toArray, List.set_cons_zero, List.set_cons_succ, i64_w, i32_w]
    rfl
   refine join_ (σ := Value × Value × Addr × Value × Value × Value × Nat) 2 #[true, true, true, true, true, true, true, true, true, true, true, true, true, true, true, false, false] (fun s_ => [(51, s_.1), (52, s_.2.1), (56, .int .u16 (rd y902 (ji36))), (58, s_.2.2.2.1), (59, s_.2.2.2.2.1), (60, .tuple #[.agg #[.int .i64 t912, .string t913, .bool t914, s_.2.2.2.2.2.1], .bool false]), (10, .pointer (some ⟨s_.2.2.2.2.2.2, 0, none⟩)), (55, .pointer (some (s_.2.2.1.add ((ji36)).toNat))), (57, .agg #[.string (⟨#[]⟩ : ByteArray), .int .u16 (rd y902 (ji36)), .int .u32 0, .string (⟨#[]⟩ : ByteArray)]), (49, .tuple #[.agg #[.int .i64 t912, .string t913, .bool t914, s_.2.2.2.2.2.1], .bool false]), (61, .agg #[.int .i64 t912, .string t913, .bool t914, s_.2.2.2.2.2.1]), (62, .bool false)]) (fun s_ w' => (Kd.R k43 43 w' w.heap.size (fun k_ => nb (s_.2.2.2.1) k_ ∧ nb (s_.2.2.2.2.1) k_ ∧ nb (s_.2.2.2.2.2.1) k_ ∧ nb (.slice Ao8 t880.length co8) k_ ∧ nb (.slice Ao47 x5_1.length co47) k_) (.slice Ao51 t894.length co51) t894) ∧ (Kd.R (Kd.int .u16) 40 w' w.heap.size (fun _ => True) s_.2.1 y902) ∧ (Kd.R k43 43 w' w.heap.size (fun k_ => nb (.slice Ao51 t894.length co51) k_ ∧ nb (s_.2.2.2.2.1) k_ ∧ nb (s_.2.2.2.2.2.1) k_ ∧ nb (.slice Ao8 t880.length co8) k_ ∧ nb (.slice Ao47 x5_1.length co47) k_) s_.2.2.2.1 y906) ∧ (Kd.R k43 43 w' w.heap.size (fun k_ => nb (.slice Ao51 t894.length co51) k_ ∧ nb (s_.2.2.2.1) k_ ∧ nb (s_.2.2.2.2.2.1) k_ ∧ nb (.slice Ao8 t880.length co8) k_ ∧ nb (.slice Ao47 x5_1.length co47) k_) s_.2.2.2.2.1 y909) ∧ (Kd.R k43 43 w' w.heap.size (fun k_ => nb (.slice Ao51 t894.length co51) k_ ∧ nb (s_.2.2.2.1) k_ ∧ nb (s_.2.2.2.2.1) k_ ∧ nb (.slice Ao8 t880.length co8) k_ ∧ nb (.slice Ao47 x5_1.length co47) k_) s_.2.2.2.2.2.1 t915) ∧ (Kd.R k43 43 w' w.heap.size (fun k_ => nb (.slice Ao51 t894.length co51) k_ ∧ nb (s_.2.2.2.1) k_ ∧ nb (s_.2.2.2.2.1) k_ ∧ nb (s_.2.2.2.2.2.1) k_ ∧ nb (.slice Ao47 x5_1.length co47) k_) (.slice Ao8 t880.length co8) t880) ∧ (Kd.R k43 43 w' w.heap.size (fun k_ => nb (.slice Ao51 t894.length co51) k_ ∧ nb (s_.2.2.2.1) k_ ∧ nb (s_.2.2.2.2.1) k_ ∧ nb (s_.2.2.2.2.2.1) k_ ∧ nb (.slice Ao8 t880.length co8) k_) (.slice Ao47 x5_1.length co47) x5_1) ∧ (∃ c_, (s_.2.1 : Value) = .slice (some s_.2.2.1) y902.length c_) ∧ (w'.heap[gb898]? = some (.cells #[.int .i64 t891, .string t892, .bool t893, .slice Ao51 t894.length co51] 28 (0, 0))) ∧ (w'.heap[s_.2.2.2.2.2.2]? = some (.cells #[.int .i64 0, .string (⟨#[]⟩ : ByteArray), .bool false, .slice none 0 0] 28 (0, 0))) ∧ (w.heap.size ≤ s_.2.2.2.2.2.2) ∧ (w.heap.size ≤ s_.2.2.2.2.2.2) ∧ (gb898 ≠ s_.2.2.2.2.2.2) ∧ (s_.2.2.2.2.2.2 ≠ gb898) ∧ (Below w.heap.size w w')) ?_ ?_
   rotate_left
   ·intro hJ1_2_6_8_9_10_14
    refine join_ (σ := Value × Value × Addr × Value × Value × Value) 3 #[true, true, true, true, true, true, true, true, true, true, true, true, true, true, false, false, false] (fun s_ => [(51, s_.1), (52, s_.2.1), (56, .int .u16 (rd y902 (ji36))), (58, s_.2.2.2.1), (59, s_.2.2.2.2.1), (60, .tuple #[.agg #[.int .i64 t912, .string t913, .bool t914, s_.2.2.2.2.2], .bool false]), (55, .pointer (some (s_.2.2.1.add ((ji36)).toNat))), (57, .agg #[.string (⟨#[]⟩ : ByteArray), .int .u16 (rd y902 (ji36)), .int .u32 0, .string (⟨#[]⟩ : ByteArray)]), (49, .tuple #[.agg #[.int .i64 t912, .string t913, .bool t914, s_.2.2.2.2.2], .bool false]), (61, .agg #[.int .i64 t912, .string t913, .bool t914, s_.2.2.2.2.2]), (62, .bool false)]) (fun s_ w' => (Kd.R k43 43 w' w.heap.size (fun k_ => nb (s_.2.2.2.1) k_ ∧ nb (s_.2.2.2.2.1) k_ ∧ nb (s_.2.2.2.2.2) k_ ∧ nb (.slice Ao8 t880.length co8) k_ ∧ nb (.slice Ao47 x5_1.length co47) k_) (.slice Ao51 t894.length co51) t894) ∧ (Kd.R (Kd.int .u16) 40 w' w.heap.size (fun _ => True) s_.2.1 y902) ∧ (Kd.R k43 43 w' w.heap.size (fun k_ => nb (.slice Ao51 t894.length co51) k_ ∧ nb (s_.2.2.2.2.1) k_ ∧ nb (s_.2.2.2.2.2) k_ ∧ nb (.slice Ao8 t880.length co8) k_ ∧ nb (.slice Ao47 x5_1.length co47) k_) s_.2.2.2.1 y906) ∧ (Kd.R k43 43 w' w.heap.size (fun k_ => nb (.slice Ao51 t894.length co51) k_ ∧ nb (s_.2.2.2.1) k_ ∧ nb (s_.2.2.2.2.2) k_ ∧ nb (.slice Ao8 t880.length co8) k_ ∧ nb (.slice Ao47 x5_1.length co47) k_) s_.2.2.2.2.1 y909) ∧ (Kd.R k43 43 w' w.heap.size (fun k_ => nb (.slice Ao51 t894.length co51) k_ ∧ nb (s_.2.2.2.1) k_ ∧ nb (s_.2.2.2.2.1) k_ ∧ nb (.slice Ao8 t880.length co8) k_ ∧ nb (.slice Ao47 x5_1.length co47) k_) s_.2.2.2.2.2 t915) ∧ (Kd.R k43 43 w' w.heap.size (fun k_ => nb (.slice Ao51 t894.length co51) k_ ∧ nb (s_.2.2.2.1) k_ ∧ nb (s_.2.2.2.2.1) k_ ∧ nb (s_.2.2.2.2.2) k_ ∧ nb (.slice Ao47 x5_1.length co47) k_) (.slice Ao8 t880.length co8) t880) ∧ (Kd.R k43 43 w' w.heap.size (fun k_ => nb (.slice Ao51 t894.length co51) k_ ∧ nb (s_.2.2.2.1) k_ ∧ nb (s_.2.2.2.2.1) k_ ∧ nb (s_.2.2.2.2.2) k_ ∧ nb (.slice Ao8 t880.length co8) k_) (.slice Ao47 x5_1.length co47) x5_1) ∧ (∃ c_, (s_.2.1 : Value) = .slice (some s_.2.2.1) y902.length c_) ∧ (w'.heap[gb898]? = some (.cells #[.int .i64 t891, .string t892, .bool t893, .slice Ao51 t894.length co51] 28 (0, 0))) ∧ (Below w.heap.size w w')) ?_ ?_
    rotate_left
    ·intro hJ1_2_6_8_9_10
     refine join_ (σ := Value × Value × Addr × Value × Value × Nat) 6 #[true, true, true, true, true, true, true, true, true, true, false, false, false, false, true, false, false] (fun s_ => [(51, s_.1), (52, s_.2.1), (56, .int .u16 (rd y902 (ji36))), (58, s_.2.2.2.1), (59, s_.2.2.2.2.1), (10, .pointer (some ⟨s_.2.2.2.2.2, 0, none⟩)), (55, .pointer (some (s_.2.2.1.add ((ji36)).toNat))), (57, .agg #[.string (⟨#[]⟩ : ByteArray), .int .u16 (rd y902 (ji36)), .int .u32 0, .string (⟨#[]⟩ : ByteArray)])]) (fun s_ w' => (Kd.R k43 43 w' w.heap.size (fun k_ => nb (s_.2.2.2.1) k_ ∧ nb (s_.2.2.2.2.1) k_ ∧ nb (.slice Ao8 t880.length co8) k_ ∧ nb (.slice Ao47 x5_1.length co47) k_) (.slice Ao51 t894.length co51) t894) ∧ (Kd.R (Kd.int .u16) 40 w' w.heap.size (fun _ => True) s_.2.1 y902) ∧ (Kd.R k43 43 w' w.heap.size (fun k_ => nb (.slice Ao51 t894.length co51) k_ ∧ nb (s_.2.2.2.2.1) k_ ∧ nb (.slice Ao8 t880.length co8) k_ ∧ nb (.slice Ao47 x5_1.length co47) k_) s_.2.2.2.1 y906) ∧ (Kd.R k43 43 w' w.heap.size (fun k_ => nb (.slice Ao51 t894.length co51) k_ ∧ nb (s_.2.2.2.1) k_ ∧ nb (.slice Ao8 t880.length co8) k_ ∧ nb (.slice Ao47 x5_1.length co47) k_) s_.2.2.2.2.1 y909) ∧ (Kd.R k43 43 w' w.heap.size (fun k_ => nb (.slice Ao51 t894.length co51) k_ ∧ nb (s_.2.2.2.1) k_ ∧ nb (s_.2.2.2.2.1) k_ ∧ nb (.slice Ao47 x5_1.length co47) k_) (.slice Ao8 t880.length co8) t880) ∧ (Kd.R k43 43 w' w.heap.size (fun k_ => nb (.slice Ao51 t894.length co51) k_ ∧ nb (s_.2.2.2.1) k_ ∧ nb (s_.2.2.2.2.1) k_ ∧ nb (.slice Ao8 t880.length co8) k_) (.slice Ao47 x5_1.length co47) x5_1) ∧ (∃ c_, (s_.2.1 : Value) = .slice (some s_.2.2.1) y902.length c_) ∧ (w'.heap[gb898]? = some (.cells #[.int .i64 t891, .string t892, .bool t893, .slice Ao51 t894.length co51] 28 (0, 0))) ∧ (w'.heap[s_.2.2.2.2.2]? = some (.cells #[.int .i64 0, .string (⟨#[]⟩ : ByteArray), .bool false, .slice none 0 0] 28 (0, 0))) ∧ (w.heap.size ≤ s_.2.2.2.2.2) ∧ (w.heap.size ≤ s_.2.2.2.2.2) ∧ (gb898 ≠ s_.2.2.2.2.2) ∧ (s_.2.2.2.2.2 ≠ gb898) ∧ (Below w.heap.size w w')) ?_ ?_
     rotate_left
     ·intro hJ1_2_6_8_9_14
      refine join_ (σ := Value × Value × Addr × Value × Value) 7 #[true, true, true, true, true, true, true, true, true, true, false, false, false, false, false, false, false] (fun s_ => [(51, s_.1), (52, s_.2.1), (56, .int .u16 (rd y902 (ji36))), (58, s_.2.2.2.1), (59, s_.2.2.2.2), (55, .pointer (some (s_.2.2.1.add ((ji36)).toNat))), (57, .agg #[.string (⟨#[]⟩ : ByteArray), .int .u16 (rd y902 (ji36)), .int .u32 0, .string (⟨#[]⟩ : ByteArray)])]) (fun s_ w' => (Kd.R k43 43 w' w.heap.size (fun k_ => nb (s_.2.2.2.1) k_ ∧ nb (s_.2.2.2.2) k_ ∧ nb (.slice Ao8 t880.length co8) k_ ∧ nb (.slice Ao47 x5_1.length co47) k_) (.slice Ao51 t894.length co51) t894) ∧ (Kd.R (Kd.int .u16) 40 w' w.heap.size (fun _ => True) s_.2.1 y902) ∧ (Kd.R k43 43 w' w.heap.size (fun k_ => nb (.slice Ao51 t894.length co51) k_ ∧ nb (s_.2.2.2.2) k_ ∧ nb (.slice Ao8 t880.length co8) k_ ∧ nb (.slice Ao47 x5_1.length co47) k_) s_.2.2.2.1 y906) ∧ (Kd.R k43 43 w' w.heap.size (fun k_ => nb (.slice Ao51 t894.length co51) k_ ∧ nb (s_.2.2.2.1) k_ ∧ nb (.slice Ao8 t880.length co8) k_ ∧ nb (.slice Ao47 x5_1.length co47) k_) s_.2.2.2.2 y909) ∧ (Kd.R k43 43 w' w.heap.size (fun k_ => nb (.slice Ao51 t894.length co51) k_ ∧ nb (s_.2.2.2.1) k_ ∧ nb (s_.2.2.2.2) k_ ∧ nb (.slice Ao47 x5_1.length co47) k_) (.slice Ao8 t880.length co8) t880) ∧ (Kd.R k43 43 w' w.heap.size (fun k_ => nb (.slice Ao51 t894.length co51) k_ ∧ nb (s_.2.2.2.1) k_ ∧ nb (s_.2.2.2.2) k_ ∧ nb (.slice Ao8 t880.length co8) k_) (.slice Ao47 x5_1.length co47) x5_1) ∧ (∃ c_, (s_.2.1 : Value) = .slice (some s_.2.2.1) y902.length c_) ∧ (w'.heap[gb898]? = some (.cells #[.int .i64 t891, .string t892, .bool t893, .slice Ao51 t894.length co51] 28 (0, 0))) ∧ (Below w.heap.size w w')) ?_ ?_
      rotate_left
      ·intro hJ1_2_6_8_9
       refine join_ (σ := Value × Value × Addr × Value × Nat) 7 #[true, true, true, true, true, true, true, true, true, false, false, false, false, false, true, false, false] (fun s_ => [(51, s_.1), (52, s_.2.1), (56, .int .u16 (rd y902 (ji36))), (58, s_.2.2.2.1), (10, .pointer (some ⟨s_.2.2.2.2, 0, none⟩)), (55, .pointer (some (s_.2.2.1.add ((ji36)).toNat))), (57, .agg #[.string (⟨#[]⟩ : ByteArray), .int .u16 (rd y902 (ji36)), .int .u32 0, .string (⟨#[]⟩ : ByteArray)])]) (fun s_ w' => (Kd.R k43 43 w' w.heap.size (fun k_ => nb (s_.1) k_ ∧ nb (s_.2.2.2.1) k_ ∧ nb (.slice Ao8 t880.length co8) k_ ∧ nb (.slice Ao47 x5_1.length co47) k_) (.slice Ao51 t894.length co51) t894) ∧ (Kd.R k43 43 w' w.heap.size (fun k_ => nb (.slice Ao51 t894.length co51) k_ ∧ nb (s_.2.2.2.1) k_ ∧ nb (.slice Ao8 t880.length co8) k_ ∧ nb (.slice Ao47 x5_1.length co47) k_) s_.1 y899) ∧ (Kd.R (Kd.int .u16) 40 w' w.heap.size (fun _ => True) s_.2.1 y902) ∧ (Kd.R k43 43 w' w.heap.size (fun k_ => nb (.slice Ao51 t894.length co51) k_ ∧ nb (s_.1) k_ ∧ nb (.slice Ao8 t880.length co8) k_ ∧ nb (.slice Ao47 x5_1.length co47) k_) s_.2.2.2.1 y906) ∧ (Kd.R k43 43 w' w.heap.size (fun k_ => nb (.slice Ao51 t894.length co51) k_ ∧ nb (s_.1) k_ ∧ nb (s_.2.2.2.1) k_ ∧ nb (.slice Ao47 x5_1.length co47) k_) (.slice Ao8 t880.length co8) t880) ∧ (Kd.R k43 43 w' w.heap.size (fun k_ => nb (.slice Ao51 t894.length co51) k_ ∧ nb (s_.1) k_ ∧ nb (s_.2.2.2.1) k_ ∧ nb (.slice Ao8 t880.length co8) k_) (.slice Ao47 x5_1.length co47) x5_1) ∧ (∃ c_, (s_.2.1 : Value) = .slice (some s_.2.2.1) y902.length c_) ∧ (w'.heap[gb898]? = some (.cells #[.int .i64 t891, .string t892, .bool t893, .slice Ao51 t894.length co51] 28 (0, 0))) ∧ (w'.heap[s_.2.2.2.2]? = some (.cells #[.int .i64 0, .string (⟨#[]⟩ : ByteArray), .bool false, .slice none 0 0] 28 (0, 0))) ∧ (w.heap.size ≤ s_.2.2.2.2) ∧ (w.heap.size ≤ s_.2.2.2.2) ∧ (gb898 ≠ s_.2.2.2.2) ∧ (s_.2.2.2.2 ≠ gb898) ∧ (Below w.heap.size w w')) ?_ ?_
       rotate_left
       ·intro hJ1_2_6_8_14
        refine join_ (σ := Value × Value × Addr × Value) 8 #[true, true, true, true, true, true, true, true, true, false, false, false, false, false, false, false, false] (fun s_ => [(51, s_.1), (52, s_.2.1), (56, .int .u16 (rd y902 (ji36))), (58, s_.2.2.2), (55, .pointer (some (s_.2.2.1.add ((ji36)).toNat))), (57, .agg #[.string (⟨#[]⟩ : ByteArray), .int .u16 (rd y902 (ji36)), .int .u32 0, .string (⟨#[]⟩ : ByteArray)])]) (fun s_ w' => (Kd.R k43 43 w' w.heap.size (fun k_ => nb (s_.1) k_ ∧ nb (s_.2.2.2) k_ ∧ nb (.slice Ao8 t880.length co8) k_ ∧ nb (.slice Ao47 x5_1.length co47) k_) (.slice Ao51 t894.length co51) t894) ∧ (Kd.R k43 43 w' w.heap.size (fun k_ => nb (.slice Ao51 t894.length co51) k_ ∧ nb (s_.2.2.2) k_ ∧ nb (.slice Ao8 t880.length co8) k_ ∧ nb (.slice Ao47 x5_1.length co47) k_) s_.1 y899) ∧ (Kd.R (Kd.int .u16) 40 w' w.heap.size (fun _ => True) s_.2.1 y902) ∧ (Kd.R k43 43 w' w.heap.size (fun k_ => nb (.slice Ao51 t894.length co51) k_ ∧ nb (s_.1) k_ ∧ nb (.slice Ao8 t880.length co8) k_ ∧ nb (.slice Ao47 x5_1.length co47) k_) s_.2.2.2 y906) ∧ (Kd.R k43 43 w' w.heap.size (fun k_ => nb (.slice Ao51 t894.length co51) k_ ∧ nb (s_.1) k_ ∧ nb (s_.2.2.2) k_ ∧ nb (.slice Ao47 x5_1.length co47) k_) (.slice Ao8 t880.length co8) t880) ∧ (Kd.R k43 43 w' w.heap.size (fun k_ => nb (.slice Ao51 t894.length co51) k_ ∧ nb (s_.1) k_ ∧ nb (s_.2.2.2) k_ ∧ nb (.slice Ao8 t880.length co8) k_) (.slice Ao47 x5_1.length co47) x5_1) ∧ (∃ c_, (s_.2.1 : Value) = .slice (some s_.2.2.1) y902.length c_) ∧ (w'.heap[gb898]? = some (.cells #[.int .i64 t891, .string t892, .bool t893, .slice Ao51 t894.length co51] 28 (0, 0))) ∧ (Below w.heap.size w w')) ?_ ?_
        rotate_left
        ·intro hJ1_2_6_8
         refine join_ (σ := Value × Value × Addr × Nat) 8 #[true, true, true, true, true, true, true, true, false, false, false, false, false, false, true, false, false] (fun s_ => [(51, s_.1), (52, s_.2.1), (56, .int .u16 (rd y902 (ji36))), (10, .pointer (some ⟨s_.2.2.2, 0, none⟩)), (55, .pointer (some (s_.2.2.1.add ((ji36)).toNat))), (57, .agg #[.string (⟨#[]⟩ : ByteArray), .int .u16 (rd y902 (ji36)), .int .u32 0, .string (⟨#[]⟩ : ByteArray)])]) (fun s_ w' => (Kd.R k43 43 w' w.heap.size (fun k_ => nb (s_.1) k_ ∧ nb (.slice Ao8 t880.length co8) k_ ∧ nb (.slice Ao47 x5_1.length co47) k_) (.slice Ao51 t894.length co51) t894) ∧ (Kd.R k43 43 w' w.heap.size (fun k_ => nb (.slice Ao51 t894.length co51) k_ ∧ nb (.slice Ao8 t880.length co8) k_ ∧ nb (.slice Ao47 x5_1.length co47) k_) s_.1 y899) ∧ (Kd.R (Kd.int .u16) 40 w' w.heap.size (fun _ => True) s_.2.1 y902) ∧ (Kd.R k43 43 w' w.heap.size (fun k_ => nb (.slice Ao51 t894.length co51) k_ ∧ nb (s_.1) k_ ∧ nb (.slice Ao47 x5_1.length co47) k_) (.slice Ao8 t880.length co8) t880) ∧ (Kd.R k43 43 w' w.heap.size (fun k_ => nb (.slice Ao51 t894.length co51) k_ ∧ nb (s_.1) k_ ∧ nb (.slice Ao8 t880.length co8) k_) (.slice Ao47 x5_1.length co47) x5_1) ∧ (∃ c_, (s_.2.1 : Value) = .slice (some s_.2.2.1) y902.length c_) ∧ (w'.heap[gb898]? = some (.cells #[.int .i64 t891, .string t892, .bool t893, .slice Ao51 t894.length co51] 28 (0, 0))) ∧ (w'.heap[s_.2.2.2]? = some (.cells #[.int .i64 0, .string (⟨#[]⟩ : ByteArray), .bool false, .slice none 0 0] 28 (0, 0))) ∧ (w.heap.size ≤ s_.2.2.2) ∧ (w.heap.size ≤ s_.2.2.2) ∧ (gb898 ≠ s_.2.2.2) ∧ (s_.2.2.2 ≠ gb898) ∧ (Below w.heap.size w w')) ?_ ?_
         rotate_left
         ·intro hJ1_2_6_14
          refine join_ (σ := Value × Addr × Value × Nat) 8 #[true, false, true, true, true, true, true, true, true, false, false, false, false, false, true, false, false] (fun s_ => [(52, s_.1), (56, .int .u16 (rd y902 (ji36))), (58, s_.2.2.1), (10, .pointer (some ⟨s_.2.2.2, 0, none⟩)), (55, .pointer (some (s_.2.1.add ((ji36)).toNat))), (57, .agg #[.string (⟨#[]⟩ : ByteArray), .int .u16 (rd y902 (ji36)), .int .u32 0, .string (⟨#[]⟩ : ByteArray)])]) (fun s_ w' => (Kd.R k43 43 w' w.heap.size (fun k_ => nb (s_.2.2.1) k_ ∧ nb (.slice Ao8 t880.length co8) k_ ∧ nb (.slice Ao47 x5_1.length co47) k_) (.slice Ao51 t894.length co51) t894) ∧ (Kd.R (Kd.int .u16) 40 w' w.heap.size (fun _ => True) s_.1 y902) ∧ (Kd.R k43 43 w' w.heap.size (fun k_ => nb (.slice Ao51 t894.length co51) k_ ∧ nb (.slice Ao8 t880.length co8) k_ ∧ nb (.slice Ao47 x5_1.length co47) k_) s_.2.2.1 y906) ∧ (Kd.R k43 43 w' w.heap.size (fun k_ => nb (.slice Ao51 t894.length co51) k_ ∧ nb (s_.2.2.1) k_ ∧ nb (.slice Ao47 x5_1.length co47) k_) (.slice Ao8 t880.length co8) t880) ∧ (Kd.R k43 43 w' w.heap.size (fun k_ => nb (.slice Ao51 t894.length co51) k_ ∧ nb (s_.2.2.1) k_ ∧ nb (.slice Ao8 t880.length co8) k_) (.slice Ao47 x5_1.length co47) x5_1) ∧ (∃ c_, (s_.1 : Value) = .slice (some s_.2.1) y902.length c_) ∧ (w'.heap[gb898]? = some (.cells #[.int .i64 t891, .string t892, .bool t893, .slice Ao51 t894.length co51] 28 (0, 0))) ∧ (w'.heap[s_.2.2.2]? = some (.cells #[.int .i64 0, .string (⟨#[]⟩ : ByteArray), .bool false, .slice none 0 0] 28 (0, 0))) ∧ (w.heap.size ≤ s_.2.2.2) ∧ (w.heap.size ≤ s_.2.2.2) ∧ (gb898 ≠ s_.2.2.2) ∧ (s_.2.2.2 ≠ gb898) ∧ (Below w.heap.size w w')) ?_ ?_
          rotate_left
          ·intro hJ2_6_8_14
           refine join_ (σ := Value × Value × Addr) 9 #[true, true, true, true, true, true, true, true, false, false, false, false, false, false, false, false, false] (fun s_ => [(51, s_.1), (52, s_.2.1), (56, .int .u16 (rd y902 (ji36))), (55, .pointer (some (s_.2.2.add ((ji36)).toNat))), (57, .agg #[.string (⟨#[]⟩ : ByteArray), .int .u16 (rd y902 (ji36)), .int .u32 0, .string (⟨#[]⟩ : ByteArray)])]) (fun s_ w' => (Kd.R k43 43 w' w.heap.size (fun k_ => nb (s_.1) k_ ∧ nb (.slice Ao8 t880.length co8) k_ ∧ nb (.slice Ao47 x5_1.length co47) k_) (.slice Ao51 t894.length co51) t894) ∧ (Kd.R k43 43 w' w.heap.size (fun k_ => nb (.slice Ao51 t894.length co51) k_ ∧ nb (.slice Ao8 t880.length co8) k_ ∧ nb (.slice Ao47 x5_1.length co47) k_) s_.1 y899) ∧ (Kd.R (Kd.int .u16) 40 w' w.heap.size (fun _ => True) s_.2.1 y902) ∧ (Kd.R k43 43 w' w.heap.size (fun k_ => nb (.slice Ao51 t894.length co51) k_ ∧ nb (s_.1) k_ ∧ nb (.slice Ao47 x5_1.length co47) k_) (.slice Ao8 t880.length co8) t880) ∧ (Kd.R k43 43 w' w.heap.size (fun k_ => nb (.slice Ao51 t894.length co51) k_ ∧ nb (s_.1) k_ ∧ nb (.slice Ao8 t880.length co8) k_) (.slice Ao47 x5_1.length co47) x5_1) ∧ (∃ c_, (s_.2.1 : Value) = .slice (some s_.2.2) y902.length c_) ∧ (w'.heap[gb898]? = some (.cells #[.int .i64 t891, .string t892, .bool t893, .slice Ao51 t894.length co51] 28 (0, 0))) ∧ (Below w.heap.size w w')) ?_ ?_
           rotate_left
           ·intro hJ1_2_6
            refine join_ (σ := Value × Value × Addr × Nat) 10 #[true, true, true, true, true, true, false, false, false, false, false, false, false, false, true, false, false] (fun s_ => [(51, s_.1), (52, s_.2.1), (10, .pointer (some ⟨s_.2.2.2, 0, none⟩)), (55, .pointer (some (s_.2.2.1.add ((ji36)).toNat)))]) (fun s_ w' => (Kd.R k43 43 w' w.heap.size (fun k_ => nb (s_.1) k_ ∧ nb (.slice Ao8 t880.length co8) k_ ∧ nb (.slice Ao47 x5_1.length co47) k_) (.slice Ao51 t894.length co51) t894) ∧ (Kd.R k43 43 w' w.heap.size (fun k_ => nb (.slice Ao51 t894.length co51) k_ ∧ nb (.slice Ao8 t880.length co8) k_ ∧ nb (.slice Ao47 x5_1.length co47) k_) s_.1 y899) ∧ (Kd.R (Kd.int .u16) 40 w' w.heap.size (fun _ => True) s_.2.1 y902) ∧ (Kd.R k43 43 w' w.heap.size (fun k_ => nb (.slice Ao51 t894.length co51) k_ ∧ nb (s_.1) k_ ∧ nb (.slice Ao47 x5_1.length co47) k_) (.slice Ao8 t880.length co8) t880) ∧ (Kd.R k43 43 w' w.heap.size (fun k_ => nb (.slice Ao51 t894.length co51) k_ ∧ nb (s_.1) k_ ∧ nb (.slice Ao8 t880.length co8) k_) (.slice Ao47 x5_1.length co47) x5_1) ∧ (∃ c_, (s_.2.1 : Value) = .slice (some s_.2.2.1) y902.length c_) ∧ (w'.heap[gb898]? = some (.cells #[.int .i64 t891, .string t892, .bool t893, .slice Ao51 t894.length co51] 28 (0, 0))) ∧ (w'.heap[s_.2.2.2]? = some (.cells #[.int .i64 0, .string (⟨#[]⟩ : ByteArray), .bool false, .slice none 0 0] 28 (0, 0))) ∧ (w.heap.size ≤ s_.2.2.2) ∧ (w.heap.size ≤ s_.2.2.2) ∧ (gb898 ≠ s_.2.2.2) ∧ (s_.2.2.2 ≠ gb898) ∧ (Below w.heap.size w w')) ?_ ?_
            rotate_left
            ·intro hJ1_2_14
             refine join_ (σ := Value × Addr × Value) 9 #[true, false, true, true, true, true, true, true, true, false, false, false, false, false, false, false, false] (fun s_ => [(52, s_.1), (56, .int .u16 (rd y902 (ji36))), (58, s_.2.2), (55, .pointer (some (s_.2.1.add ((ji36)).toNat))), (57, .agg #[.string (⟨#[]⟩ : ByteArray), .int .u16 (rd y902 (ji36)), .int .u32 0, .string (⟨#[]⟩ : ByteArray)])]) (fun s_ w' => (Kd.R k43 43 w' w.heap.size (fun k_ => nb (s_.2.2) k_ ∧ nb (.slice Ao8 t880.length co8) k_ ∧ nb (.slice Ao47 x5_1.length co47) k_) (.slice Ao51 t894.length co51) t894) ∧ (Kd.R (Kd.int .u16) 40 w' w.heap.size (fun _ => True) s_.1 y902) ∧ (Kd.R k43 43 w' w.heap.size (fun k_ => nb (.slice Ao51 t894.length co51) k_ ∧ nb (.slice Ao8 t880.length co8) k_ ∧ nb (.slice Ao47 x5_1.length co47) k_) s_.2.2 y906) ∧ (Kd.R k43 43 w' w.heap.size (fun k_ => nb (.slice Ao51 t894.length co51) k_ ∧ nb (s_.2.2) k_ ∧ nb (.slice Ao47 x5_1.length co47) k_) (.slice Ao8 t880.length co8) t880) ∧ (Kd.R k43 43 w' w.heap.size (fun k_ => nb (.slice Ao51 t894.length co51) k_ ∧ nb (s_.2.2) k_ ∧ nb (.slice Ao8 t880.length co8) k_) (.slice Ao47 x5_1.length co47) x5_1) ∧ (∃ c_, (s_.1 : Value) = .slice (some s_.2.1) y902.length c_) ∧ (w'.heap[gb898]? = some (.cells #[.int .i64 t891, .string t892, .bool t893, .slice Ao51 t894.length co51] 28 (0, 0))) ∧ (Below w.heap.size w w')) ?_ ?_
             rotate_left
             ·intro hJ2_6_8
              refine join_ (σ := Value × Addr × Nat) 9 #[true, false, true, true, true, true, true, true, false, false, false, false, false, false, true, false, false] (fun s_ => [(52, s_.1), (56, .int .u16 (rd y902 (ji36))), (10, .pointer (some ⟨s_.2.2, 0, none⟩)), (55, .pointer (some (s_.2.1.add ((ji36)).toNat))), (57, .agg #[.string (⟨#[]⟩ : ByteArray), .int .u16 (rd y902 (ji36)), .int .u32 0, .string (⟨#[]⟩ : ByteArray)])]) (fun s_ w' => (Kd.R k43 43 w' w.heap.size (fun k_ => nb (.slice Ao8 t880.length co8) k_ ∧ nb (.slice Ao47 x5_1.length co47) k_) (.slice Ao51 t894.length co51) t894) ∧ (Kd.R (Kd.int .u16) 40 w' w.heap.size (fun _ => True) s_.1 y902) ∧ (Kd.R k43 43 w' w.heap.size (fun k_ => nb (.slice Ao51 t894.length co51) k_ ∧ nb (.slice Ao47 x5_1.length co47) k_) (.slice Ao8 t880.length co8) t880) ∧ (Kd.R k43 43 w' w.heap.size (fun k_ => nb (.slice Ao51 t894.length co51) k_ ∧ nb (.slice Ao8 t880.length co8) k_) (.slice Ao47 x5_1.length co47) x5_1) ∧ (∃ c_, (s_.1 : Value) = .slice (some s_.2.1) y902.length c_) ∧ (w'.heap[gb898]? = some (.cells #[.int .i64 t891, .string t892, .bool t893, .slice Ao51 t894.length co51] 28 (0, 0))) ∧ (w'.heap[s_.2.2]? = some (.cells #[.int .i64 0, .string (⟨#[]⟩ : ByteArray), .bool false, .slice none 0 0] 28 (0, 0))) ∧ (w.heap.size ≤ s_.2.2) ∧ (w.heap.size ≤ s_.2.2) ∧ (gb898 ≠ s_.2.2) ∧ (s_.2.2 ≠ gb898) ∧ (Below w.heap.size w w')) ?_ ?_
              rotate_left
              ·intro hJ2_6_14
               refine join_ (σ := Value × Value × Addr) 11 #[true, true, true, true, true, true, false, false, false, false, false, false, false, false, false, false, false] (fun s_ => [(51, s_.1), (52, s_.2.1), (55, .pointer (some (s_.2.2.add ((ji36)).toNat)))]) (fun s_ w' => (Kd.R k43 43 w' w.heap.size (fun k_ => nb (s_.1) k_ ∧ nb (.slice Ao8 t880.length co8) k_ ∧ nb (.slice Ao47 x5_1.length co47) k_) (.slice Ao51 t894.length co51) t894) ∧ (Kd.R k43 43 w' w.heap.size (fun k_ => nb (.slice Ao51 t894.length co51) k_ ∧ nb (.slice Ao8 t880.length co8) k_ ∧ nb (.slice Ao47 x5_1.length co47) k_) s_.1 y899) ∧ (Kd.R (Kd.int .u16) 40 w' w.heap.size (fun _ => True) s_.2.1 y902) ∧ (Kd.R k43 43 w' w.heap.size (fun k_ => nb (.slice Ao51 t894.length co51) k_ ∧ nb (s_.1) k_ ∧ nb (.slice Ao47 x5_1.length co47) k_) (.slice Ao8 t880.length co8) t880) ∧ (Kd.R k43 43 w' w.heap.size (fun k_ => nb (.slice Ao51 t894.length co51) k_ ∧ nb (s_.1) k_ ∧ nb (.slice Ao8 t880.length co8) k_) (.slice Ao47 x5_1.length co47) x5_1) ∧ (∃ c_, (s_.2.1 : Value) = .slice (some s_.2.2) y902.length c_) ∧ (w'.heap[gb898]? = some (.cells #[.int .i64 t891, .string t892, .bool t893, .slice Ao51 t894.length co51] 28 (0, 0))) ∧ (Below w.heap.size w w')) ?_ ?_
               rotate_left
               ·intro hJ1_2
                refine join_ (σ := Value × Nat) 12 #[true, true, false, true, true, false, false, false, false, false, false, false, false, false, true, false, false] (fun s_ => [(51, s_.1), (10, .pointer (some ⟨s_.2, 0, none⟩))]) (fun s_ w' => (Kd.R k43 43 w' w.heap.size (fun k_ => nb (s_.1) k_ ∧ nb (.slice Ao8 t880.length co8) k_ ∧ nb (.slice Ao47 x5_1.length co47) k_) (.slice Ao51 t894.length co51) t894) ∧ (Kd.R k43 43 w' w.heap.size (fun k_ => nb (.slice Ao51 t894.length co51) k_ ∧ nb (.slice Ao8 t880.length co8) k_ ∧ nb (.slice Ao47 x5_1.length co47) k_) s_.1 y899) ∧ (Kd.R k43 43 w' w.heap.size (fun k_ => nb (.slice Ao51 t894.length co51) k_ ∧ nb (s_.1) k_ ∧ nb (.slice Ao47 x5_1.length co47) k_) (.slice Ao8 t880.length co8) t880) ∧ (Kd.R k43 43 w' w.heap.size (fun k_ => nb (.slice Ao51 t894.length co51) k_ ∧ nb (s_.1) k_ ∧ nb (.slice Ao8 t880.length co8) k_) (.slice Ao47 x5_1.length co47) x5_1) ∧ (w'.heap[gb898]? = some (.cells #[.int .i64 t891, .string t892, .bool t893, .slice Ao51 t894.length co51] 28 (0, 0))) ∧ (w'.heap[s_.2]? = some (.cells #[.int .i64 0, .string (⟨#[]⟩ : ByteArray), .bool false, .slice none 0 0] 28 (0, 0))) ∧ (w.heap.size ≤ s_.2) ∧ (w.heap.size ≤ s_.2) ∧ (gb898 ≠ s_.2) ∧ (s_.2 ≠ gb898) ∧ (Below w.heap.size w w')) ?_ ?_
                rotate_left
                ·intro hJ1_14
                 refine join_ (σ := Value × Addr) 10 #[true, false, true, true, true, true, true, true, false, false, false, false, false, false, false, false, false] (fun s_ => [(52, s_.1), (56, .int .u16 (rd y902 (ji36))), (55, .pointer (some (s_.2.add ((ji36)).toNat))), (57, .agg #[.string (⟨#[]⟩ : ByteArray), .int .u16 (rd y902 (ji36)), .int .u32 0, .string (⟨#[]⟩ : ByteArray)])]) (fun s_ w' => (Kd.R k43 43 w' w.heap.size (fun k_ => nb (.slice Ao8 t880.length co8) k_ ∧ nb (.slice Ao47 x5_1.length co47) k_) (.slice Ao51 t894.length co51) t894) ∧ (Kd.R (Kd.int .u16) 40 w' w.heap.size (fun _ => True) s_.1 y902) ∧ (Kd.R k43 43 w' w.heap.size (fun k_ => nb (.slice Ao51 t894.length co51) k_ ∧ nb (.slice Ao47 x5_1.length co47) k_) (.slice Ao8 t880.length co8) t880) ∧ (Kd.R k43 43 w' w.heap.size (fun k_ => nb (.slice Ao51 t894.length co51) k_ ∧ nb (.slice Ao8 t880.length co8) k_) (.slice Ao47 x5_1.length co47) x5_1) ∧ (∃ c_, (s_.1 : Value) = .slice (some s_.2) y902.length c_) ∧ (w'.heap[gb898]? = some (.cells #[.int .i64 t891, .string t892, .bool t893, .slice Ao51 t894.length co51] 28 (0, 0))) ∧ (Below w.heap.size w w')) ?_ ?_
                 rotate_left
                 ·intro hJ2_6
                  refine join_ (σ := Value × Addr × Nat) 11 #[true, false, true, true, true, true, false, false, false, false, false, false, false, false, true, false, false] (fun s_ => [(52, s_.1), (10, .pointer (some ⟨s_.2.2, 0, none⟩)), (55, .pointer (some (s_.2.1.add ((ji36)).toNat)))]) (fun s_ w' => (Kd.R k43 43 w' w.heap.size (fun k_ => nb (.slice Ao8 t880.length co8) k_ ∧ nb (.slice Ao47 x5_1.length co47) k_) (.slice Ao51 t894.length co51) t894) ∧ (Kd.R (Kd.int .u16) 40 w' w.heap.size (fun _ => True) s_.1 y902) ∧ (Kd.R k43 43 w' w.heap.size (fun k_ => nb (.slice Ao51 t894.length co51) k_ ∧ nb (.slice Ao47 x5_1.length co47) k_) (.slice Ao8 t880.length co8) t880) ∧ (Kd.R k43 43 w' w.heap.size (fun k_ => nb (.slice Ao51 t894.length co51) k_ ∧ nb (.slice Ao8 t880.length co8) k_) (.slice Ao47 x5_1.length co47) x5_1) ∧ (∃ c_, (s_.1 : Value) = .slice (some s_.2.1) y902.length c_) ∧ (w'.heap[gb898]? = some (.cells #[.int .i64 t891, .string t892, .bool t893, .slice Ao51 t894.length co51] 28 (0, 0))) ∧ (w'.heap[s_.2.2]? = some (.cells #[.int .i64 0, .string (⟨#[]⟩ : ByteArray), .bool false, .slice none 0 0] 28 (0, 0))) ∧ (w.heap.size ≤ s_.2.2) ∧ (w.heap.size ≤ s_.2.2) ∧ (gb898 ≠ s_.2.2) ∧ (s_.2.2 ≠ gb898) ∧ (Below w.heap.size w w')) ?_ ?_
                  rotate_left
                  ·intro hJ2_14
                   refine join_ (σ := Value) 13 #[true, true, false, true, true, false, false, false, false, false, false, false, false, false, false, false, false] (fun s_ => [(51, s_)]) (fun s_ w' => (Kd.R k43 43 w' w.heap.size (fun k_ => nb s_ k_ ∧ nb (.slice Ao8 t880.length co8) k_ ∧ nb (.slice Ao47 x5_1.length co47) k_) (.slice Ao51 t894.length co51) t894) ∧ (Kd.R k43 43 w' w.heap.size (fun k_ => nb (.slice Ao51 t894.length co51) k_ ∧ nb (.slice Ao8 t880.length co8) k_ ∧ nb (.slice Ao47 x5_1.length co47) k_) s_ y899) ∧ (Kd.R k43 43 w' w.heap.size (fun k_ => nb (.slice Ao51 t894.length co51) k_ ∧ nb s_ k_ ∧ nb (.slice Ao47 x5_1.length co47) k_) (.slice Ao8 t880.length co8) t880) ∧ (Kd.R k43 43 w' w.heap.size (fun k_ => nb (.slice Ao51 t894.length co51) k_ ∧ nb s_ k_ ∧ nb (.slice Ao8 t880.length co8) k_) (.slice Ao47 x5_1.length co47) x5_1) ∧ (w'.heap[gb898]? = some (.cells #[.int .i64 t891, .string t892, .bool t893, .slice Ao51 t894.length co51] 28 (0, 0))) ∧ (Below w.heap.size w w')) ?_ ?_
                   rotate_left
                   ·intro hJ1
                    refine join_ (σ := Value × Addr) 12 #[true, false, true, true, true, true, false, false, false, false, false, false, false, false, false, false, false] (fun s_ => [(52, s_.1), (55, .pointer (some (s_.2.add ((ji36)).toNat)))]) (fun s_ w' => (Kd.R k43 43 w' w.heap.size (fun k_ => nb (.slice Ao8 t880.length co8) k_ ∧ nb (.slice Ao47 x5_1.length co47) k_) (.slice Ao51 t894.length co51) t894) ∧ (Kd.R (Kd.int .u16) 40 w' w.heap.size (fun _ => True) s_.1 y902) ∧ (Kd.R k43 43 w' w.heap.size (fun k_ => nb (.slice Ao51 t894.length co51) k_ ∧ nb (.slice Ao47 x5_1.length co47) k_) (.slice Ao8 t880.length co8) t880) ∧ (Kd.R k43 43 w' w.heap.size (fun k_ => nb (.slice Ao51 t894.length co51) k_ ∧ nb (.slice Ao8 t880.length co8) k_) (.slice Ao47 x5_1.length co47) x5_1) ∧ (∃ c_, (s_.1 : Value) = .slice (some s_.2) y902.length c_) ∧ (w'.heap[gb898]? = some (.cells #[.int .i64 t891, .string t892, .bool t893, .slice Ao51 t894.length co51] 28 (0, 0))) ∧ (Below w.heap.size w w')) ?_ ?_
                    rotate_left
                    ·intro hJ2
                     refine join_ (σ := Nat) 13 #[true, false, false, true, true, false, false, false, false, false, false, false, false, false, true, false, false] (fun s_ => [(10, .pointer (some ⟨s_, 0, none⟩))]) (fun s_ w' => (Kd.R k43 43 w' w.heap.size (fun k_ => nb (.slice Ao8 t880.length co8) k_ ∧ nb (.slice Ao47 x5_1.length co47) k_) (.slice Ao51 t894.length co51) t894) ∧ (Kd.R k43 43 w' w.heap.size (fun k_ => nb (.slice Ao51 t894.length co51) k_ ∧ nb (.slice Ao47 x5_1.length co47) k_) (.slice Ao8 t880.length co8) t880) ∧ (Kd.R k43 43 w' w.heap.size (fun k_ => nb (.slice Ao51 t894.length co51) k_ ∧ nb (.slice Ao8 t880.length co8) k_) (.slice Ao47 x5_1.length co47) x5_1) ∧ (w'.heap[gb898]? = some (.cells #[.int .i64 t891, .string t892, .bool t893, .slice Ao51 t894.length co51] 28 (0, 0))) ∧ (w'.heap[s_]? = some (.cells #[.int .i64 0, .string (⟨#[]⟩ : ByteArray), .bool false, .slice none 0 0] 28 (0, 0))) ∧ (w.heap.size ≤ s_) ∧ (w.heap.size ≤ s_) ∧ (gb898 ≠ s_) ∧ (s_ ≠ gb898) ∧ (Below w.heap.size w w')) ?_ ?_
                     rotate_left
                     ·intro hJ14
                      refine three_ (i := 1) (j := 2) (k := 14) (Ni := some 51) (Nj := some 52) (Nk := some 10) #[true, true, false, true, true, false, false, false, false, false, false, false, false, false, false, false, false] #[true, false, true, true, true, false, false, false, false, false, false, false, false, false, false, false, false] #[true, false, false, true, true, false, false, false, false, false, false, false, false, false, true, false, false] rfl rfl rfl rfl rfl rfl (three_of HT_.out (by kernel_rfl)) (by decide) (by decide) (by decide) (fun K hK => ?_) (fun K hK => ?_) (fun K hK => ?_)
                      ·skip
                       refine Kd.R_append_rows_step k43 (w0 := w) w.heap.size rfl (.const (.slice none 0 0)) (.tmp 50) 26 43 (.agg #[(.string ⟨#[]⟩), (.int .u16 0), (.int .u32 0), (.string ⟨#[]⟩)]) 40 rfl Try.underlying26 info43 rfl (by decide) (by omega) (.slice none 0 0) ([] : List (S43)) x5_1 _ _ _ (fun k_ => nb (.slice Ao47 x5_1.length co47) k_ ∧ nb (.slice Ao8 t880.length co8) k_ ∧ nb (.slice Ao51 t894.length co51) k_) (fun _ => False) rfl rfl ?aO ?aR (fun _ _ h => h) (fun _ h => h.elim) ?aF ?aB ?aS ?aL ?_
                       (case aR => repeat (first | exact (Kd.R_reads' HO_5.out).2.2 | (with_reducible refine Kd.C_alloc ?_ _) | (with_reducible refine Kd.C_drewN ?_ _) | (with_reducible refine Kd.C_drew ?_)))
                       (case aB => exact HB.out)
                       (case aF => exact (fun k_ hk => ⟨Kd.fresh' (Kd.R_lt HO_5.out) k_ hk, Kd.fresh' (Kd.R_lt HO_15.out) k_ hk, Kd.fresh' (Kd.R_lt HO896.out) k_ hk⟩))
                       (case aO => exact ((Kd.R_nil _ _ _ _ (fun k_ => nb (.slice Ao47 x5_1.length co47) k_ ∧ nb (.slice Ao8 t880.length co8) k_ ∧ nb (.slice Ao51 t894.length co51) k_))))
                       (case aS => exact (below_size HB.out))
                       (case aL => have := LMc35.out; omega)
                       intro v900 w54 ho hb hg hat
                       rw [← Ny899.out] at ho
                       have n0_ := Aside0.mk (Kd.R_after (Kd.R_apart_nil HO_5.out) hg hat)
                       have n1_ := Aside0.mk (Kd.R_after (Kd.R_apart_nil HO_15.out) hg hat)
                       have n2_ := Aside0.mk (Kd.R_after (Kd.R_apart_nil HO896.out) hg hat)
                       have n3_ := Aside0.mk (blk_grown (g := gb898) (o := .cells #[.int .i64 t891, .string t892, .bool t893, .slice Ao51 t894.length co51] 28 (0, 0)) BK898.out hg (by simp [Value.ownBlock]))
                       have n4_ := Aside0.mk (hb)
                       have n5_ := Aside0.mk (ho)
                       clear HO_5
                       clear HO_15
                       clear HO896
                       clear BK898
                       clear HB
                       have HO_5 := n0_
                       have HO_15 := n1_
                       have HO896 := n2_
                       have BK898 := n3_
                       have HB := n4_
                       have HO901 := n5_
                       clear n0_ n1_ n2_ n3_ n4_ n5_
                       clear ho hb hg hat
                       refine hK.out _ _ trivial (fun hHeld => ?_)
                       clear hK K
                       refine norm_ (a' := ?_) ?_ ?_
                       rotate_left
                       ·show Act.put _ (some 51) _ = _
                        simp only [Act.put, List.setIfInBounds_toArray, List.set_cons_zero, List.set_cons_succ, i64_w, i32_w]
                        rfl
                       exact norm_ (by simp only [putAll, Act.put, List.setIfInBounds_toArray, List.set_cons_zero, List.set_cons_succ]; first | done | rfl) (hJ1 (v900) _ ⟨(Kd.R_mono HO896.out (fun _ hk => ⟨hk.2, ⟨hk.1.2, hk.1.1⟩⟩)), (Kd.R_mono HO901.out (fun _ hk => ⟨hk.2.2, ⟨hk.2.1, hk.1⟩⟩)), (Kd.R_mono HO_15.out (fun _ hk => ⟨hk.1.2, ⟨hk.2, hk.1.1⟩⟩)), (Kd.R_mono HO_5.out (fun _ hk => ⟨hk.1.2, ⟨hk.2, hk.1.1⟩⟩)), BK898.out, HB.out⟩)
                      ·skip
                       refine Kd.R_lit_step (Kd.int .u16) _ 40 ?hg (N := 52) ?hd (xs := ([5, 6, 2] : List Int)) (inner := [.int .u16 5, .int .u16 6, .int .u16 2]) (ok := fun _ => True) (okp := fun _ => True) ?hr ?hp (fun _ hk => hk) trivial (Below.refl _ _) (Nat.le_refl _) (by simp) ?_; (case hd => rfl); (case hg => rfl); (case hr => first | (go_simp; done) | (go_simp; rfl)); (case hp => exact (Reps.one (show Kd.M (Kd.int .u16) _ _ _ 5 [.int .u16 5] from rfl) (Reps.one (show Kd.M (Kd.int .u16) _ _ _ 6 [.int .u16 6] from rfl) (Reps.one (show Kd.M (Kd.int .u16) _ _ _ 2 [.int .u16 2] from rfl) (Reps.none _ _)))))
                       intro v903 w54 ho55 hb hg_ hnew_
                       clear hg_ hnew_
                       (first | rw [← Ny902.out] at ho55 | (simp only [Int.reduceToNat] at ho55; rw [← Ny902.out] at ho55))
                       have n0_ := Aside0.mk (Kd.R_below HO_5.out hb)
                       have n1_ := Aside0.mk (Kd.R_below HO_15.out hb)
                       have n2_ := Aside0.mk (Kd.R_below HO896.out hb)
                       have n3_ := Aside0.mk (Kd.R_lower ho55 (below_size HB.out))
                       have n4_ := Aside0.mk (blk_below (g := gb898) (o := .cells #[.int .i64 t891, .string t892, .bool t893, .slice Ao51 t894.length co51] 28 (0, 0)) BK898.out hb)
                       have n5_ := Aside0.mk (below_step HB.out hb)
                       clear HO_5
                       clear HO_15
                       clear HO896
                       clear BK898
                       clear HB
                       have HO_5 := n0_
                       have HO_15 := n1_
                       have HO896 := n2_
                       have HO904 := n3_
                       have BK898 := n4_
                       have HB := n5_
                       clear n0_ n1_ n2_ n3_ n4_ n5_
                       clear hb ho55
                       obtain ⟨Ao56, co56, eo56⟩ := Kd.R_slice HO904.out
                       subst eo56
                       obtain ⟨ado56, fo56, _⟩ := Kd.at_int (Kd.R_reads' HO904.out).2.2 0 (by decide) (by rw [Ny902.out]; simp)
                       cases fo56
                       refine hK.out _ _ trivial (fun hHeld => ?_)
                       clear hK K
                       refine norm_ (a' := ?_) ?_ ?_
                       rotate_left
                       ·show Act.put _ (some 52) _ = _
                        simp only [Act.put, List.setIfInBounds_toArray, List.set_cons_zero, List.set_cons_succ, i64_w, i32_w]
                        rfl
                       refine pure_ (i := 5) (N := some 55) (v := ?_) (a' := ?_) #[true, false, true, true, true, true, false, false, false, false, false, false, false, false, false, false, false] rfl rfl (any_of HT_.out (by kernel_rfl)) (fun _ _ _ h => h) (Or.inl ⟨by rfl, ?_⟩) ?_ ?_
                       rotate_left
                       ·intro w'
                        go_simp
                        with_reducible rfl
                       rotate_left
                       ·simp only [Act.put, List.setIfInBounds_toArray, List.set_cons_zero, List.set_cons_succ, i64_w, i32_w]
                        rfl
                       exact norm_ (by simp only [putAll, Act.put, List.setIfInBounds_toArray, List.set_cons_zero, List.set_cons_succ]; first | done | rfl) (hJ2 (.slice (some ado56) y902.length co56, ado56) _ ⟨(Kd.R_mono HO896.out (fun _ hk => ⟨hk.2, hk.1⟩)), HO904.out, (Kd.R_mono HO_15.out (fun _ hk => ⟨hk.2, hk.1⟩)), (Kd.R_mono HO_5.out (fun _ hk => ⟨hk.2, hk.1⟩)), ⟨_, rfl⟩, BK898.out, HB.out⟩)
                      ·skip
                       refine box_step ?hg (N := 10) ?hd (cs := #[.int .i64 0, .string (⟨#[]⟩ : ByteArray), .bool false, .slice none 0 0]) (t := 28) ?hr ?_; (case hd => rfl); (case hg => rfl); (case hr => first | (go_simp; done) | (go_simp; rfl))
                       intro gb919 hg w54 hbox hb
                       have n0_ := Aside0.mk (Kd.R_below HO_5.out hb)
                       have n1_ := Aside0.mk (Kd.R_below HO_15.out hb)
                       have n2_ := Aside0.mk (Kd.R_below HO896.out hb)
                       have n3_ := Aside0.mk (blk_below (g := gb898) (o := .cells #[.int .i64 t891, .string t892, .bool t893, .slice Ao51 t894.length co51] 28 (0, 0)) BK898.out hb)
                       have n4_ := Aside0.mk (below_step HB.out hb)
                       have n5_ := Aside0.mk (hbox)
                       have n6_ := Aside0.mk ((by rw [hg]; exact (below_size HB.out) : w.heap.size ≤ gb919))
                       have n7_ := Aside0.mk ((by rw [hg]; exact (below_size HB.out) : w.heap.size ≤ gb919))
                       have n8_ := Aside0.mk ((by rw [hg]; exact Nat.ne_of_lt (blk_lt (g := gb898) (o := .cells #[.int .i64 t891, .string t892, .bool t893, .slice Ao51 t894.length co51] 28 (0, 0)) BK898.out) : gb898 ≠ gb919))
                       have n9_ := Aside0.mk ((by rw [hg]; exact Nat.ne_of_gt (blk_lt (g := gb898) (o := .cells #[.int .i64 t891, .string t892, .bool t893, .slice Ao51 t894.length co51] 28 (0, 0)) BK898.out) : gb919 ≠ gb898))
                       clear HO_5
                       clear HO_15
                       clear HO896
                       clear BK898
                       clear HB
                       have HO_5 := n0_
                       have HO_15 := n1_
                       have HO896 := n2_
                       have BK898 := n3_
                       have HB := n4_
                       have BK919 := n5_
                       have GW919 := n6_
                       have GE919 := n7_
                       have NB898_919 := n8_
                       have NB919_898 := n9_
                       clear n0_ n1_ n2_ n3_ n4_ n5_ n6_ n7_ n8_ n9_
                       clear hb hbox hg
                       refine hK.out _ _ trivial (fun hHeld => ?_)
                       clear hK K
                       refine norm_ (a' := ?_) ?_ ?_
                       rotate_left
                       ·show Act.put _ (some 10) _ = _
                        simp only [Act.put, List.setIfInBounds_toArray, List.set_cons_zero, List.set_cons_succ, i64_w, i32_w]
                        rfl
                       exact norm_ (by simp only [putAll, Act.put, List.setIfInBounds_toArray, List.set_cons_zero, List.set_cons_succ]; first | done | rfl) (hJ14 (gb919) _ ⟨(Kd.R_mono HO896.out (fun _ hk => ⟨hk.2, hk.1⟩)), (Kd.R_mono HO_15.out (fun _ hk => ⟨hk.2, hk.1⟩)), (Kd.R_mono HO_5.out (fun _ hk => ⟨hk.2, hk.1⟩)), BK898.out, BK919.out, GW919.out, GE919.out, NB898_919.out, NB919_898.out, HB.out⟩)
                     ·skip
                      rintro gb919 w55 ⟨h0_, h1_, h2_, h3_, h4_, h5_, h6_, h7_, h8_, h9_⟩
                      have n0_ : Aside0 (Kd.R k43 43 w55 w.heap.size (fun k_ => nb (.slice Ao8 t880.length co8) k_ ∧ nb (.slice Ao47 x5_1.length co47) k_) (.slice Ao51 t894.length co51) t894) := ⟨h0_⟩
                      have n1_ : Aside0 (Kd.R k43 43 w55 w.heap.size (fun k_ => nb (.slice Ao51 t894.length co51) k_ ∧ nb (.slice Ao47 x5_1.length co47) k_) (.slice Ao8 t880.length co8) t880) := ⟨h1_⟩
                      have n2_ : Aside0 (Kd.R k43 43 w55 w.heap.size (fun k_ => nb (.slice Ao51 t894.length co51) k_ ∧ nb (.slice Ao8 t880.length co8) k_) (.slice Ao47 x5_1.length co47) x5_1) := ⟨h2_⟩
                      have n3_ : Aside0 (w55.heap[gb898]? = some (.cells #[.int .i64 t891, .string t892, .bool t893, .slice Ao51 t894.length co51] 28 (0, 0))) := ⟨h3_⟩
                      have n4_ : Aside0 (w55.heap[gb919]? = some (.cells #[.int .i64 0, .string (⟨#[]⟩ : ByteArray), .bool false, .slice none 0 0] 28 (0, 0))) := ⟨h4_⟩
                      have n5_ : Aside0 (w.heap.size ≤ gb919) := ⟨h5_⟩
                      have n6_ : Aside0 (w.heap.size ≤ gb919) := ⟨h6_⟩
                      have n7_ : Aside0 (gb898 ≠ gb919) := ⟨h7_⟩
                      have n8_ : Aside0 (gb919 ≠ gb898) := ⟨h8_⟩
                      have n9_ : Aside0 (Below w.heap.size w w55) := ⟨h9_⟩
                      clear HO_5
                      clear HO_15
                      clear HO896
                      clear BK898
                      clear HB
                      clear h0_ h1_ h2_ h3_ h4_ h5_ h6_ h7_ h8_ h9_
                      have HO896 := n0_
                      have HO_15 := n1_
                      have HO_5 := n2_
                      have BK898 := n3_
                      have BK919 := n4_
                      have GW919 := n5_
                      have GE919 := n6_
                      have NB898_919 := n7_
                      have NB919_898 := n8_
                      have HB := n9_
                      clear n0_ n1_ n2_ n3_ n4_ n5_ n6_ n7_ n8_ n9_
                      have hHeld := trivial
                      refine norm_ (a' := ?_) ?_ ?_
                      rotate_left
                      ·simp only [putAll, Act.put, List.setIfInBounds_toArray, List.set_cons_zero, List.set_cons_succ]
                       rfl
                      refine two_ (i := 1) (j := 2) (Ni := some 51) (Nj := some 52) #[true, true, false, true, true, false, false, false, false, false, false, false, false, false, true, false, false] #[true, false, true, true, true, false, false, false, false, false, false, false, false, false, true, false, false] rfl rfl rfl rfl (two_of HT_.out (by kernel_rfl)) (by decide) (by decide) (fun K hK => ?_) (fun K hK => ?_)
                      ·skip
                       refine Kd.R_append_rows_step k43 (w0 := w) w.heap.size rfl (.const (.slice none 0 0)) (.tmp 50) 26 43 (.agg #[(.string ⟨#[]⟩), (.int .u16 0), (.int .u32 0), (.string ⟨#[]⟩)]) 40 rfl Try.underlying26 info43 rfl (by decide) (by omega) (.slice none 0 0) ([] : List (S43)) x5_1 _ _ _ (fun k_ => nb (.slice Ao47 x5_1.length co47) k_ ∧ nb (.slice Ao8 t880.length co8) k_ ∧ nb (.slice Ao51 t894.length co51) k_) (fun _ => False) rfl rfl ?aO ?aR (fun _ _ h => h) (fun _ h => h.elim) ?aF ?aB ?aS ?aL ?_
                       (case aR => repeat (first | exact (Kd.R_reads' HO_5.out).2.2 | (with_reducible refine Kd.C_alloc ?_ _) | (with_reducible refine Kd.C_drewN ?_ _) | (with_reducible refine Kd.C_drew ?_)))
                       (case aB => exact HB.out)
                       (case aF => exact (fun k_ hk => ⟨Kd.fresh' (Kd.R_lt HO_5.out) k_ hk, Kd.fresh' (Kd.R_lt HO_15.out) k_ hk, Kd.fresh' (Kd.R_lt HO896.out) k_ hk⟩))
                       (case aO => exact ((Kd.R_nil _ _ _ _ (fun k_ => nb (.slice Ao47 x5_1.length co47) k_ ∧ nb (.slice Ao8 t880.length co8) k_ ∧ nb (.slice Ao51 t894.length co51) k_))))
                       (case aS => exact (below_size HB.out))
                       (case aL => have := LMc35.out; omega)
                       intro v900 w56 ho hb hg hat
                       rw [← Ny899.out] at ho
                       have n0_ := Aside0.mk (Kd.R_after (Kd.R_apart_nil HO_5.out) hg hat)
                       have n1_ := Aside0.mk (Kd.R_after (Kd.R_apart_nil HO_15.out) hg hat)
                       have n2_ := Aside0.mk (Kd.R_after (Kd.R_apart_nil HO896.out) hg hat)
                       have n3_ := Aside0.mk (blk_grown (g := gb898) (o := .cells #[.int .i64 t891, .string t892, .bool t893, .slice Ao51 t894.length co51] 28 (0, 0)) BK898.out hg (by simp [Value.ownBlock]))
                       have n4_ := Aside0.mk (blk_grown (g := gb919) (o := .cells #[.int .i64 0, .string (⟨#[]⟩ : ByteArray), .bool false, .slice none 0 0] 28 (0, 0)) BK919.out hg (by simp [Value.ownBlock]))
                       have n5_ := Aside0.mk (hb)
                       have n6_ := Aside0.mk (ho)
                       clear HO_5
                       clear HO_15
                       clear HO896
                       clear BK898
                       clear BK919
                       clear HB
                       have HO_5 := n0_
                       have HO_15 := n1_
                       have HO896 := n2_
                       have BK898 := n3_
                       have BK919 := n4_
                       have HB := n5_
                       have HO901 := n6_
                       clear n0_ n1_ n2_ n3_ n4_ n5_ n6_
                       clear ho hb hg hat
                       refine hK.out _ _ trivial (fun hHeld => ?_)
                       clear hK K
                       refine norm_ (a' := ?_) ?_ ?_
                       rotate_left
                       ·show Act.put _ (some 51) _ = _
                        simp only [Act.put, List.setIfInBounds_toArray, List.set_cons_zero, List.set_cons_succ, i64_w, i32_w]
                        rfl
                       exact norm_ (by simp only [putAll, Act.put, List.setIfInBounds_toArray, List.set_cons_zero, List.set_cons_succ]; first | done | rfl) (hJ1_14 (v900, gb919) _ ⟨(Kd.R_mono HO896.out (fun _ hk => ⟨hk.2, ⟨hk.1.1, hk.1.2⟩⟩)), (Kd.R_mono HO901.out (fun _ hk => ⟨hk.2.2, ⟨hk.2.1, hk.1⟩⟩)), (Kd.R_mono HO_15.out (fun _ hk => ⟨hk.1.1, ⟨hk.2, hk.1.2⟩⟩)), (Kd.R_mono HO_5.out (fun _ hk => ⟨hk.1.1, ⟨hk.2, hk.1.2⟩⟩)), BK898.out, BK919.out, GW919.out, GE919.out, NB898_919.out, NB919_898.out, HB.out⟩)
                      ·skip
                       refine Kd.R_lit_step (Kd.int .u16) _ 40 ?hg (N := 52) ?hd (xs := ([5, 6, 2] : List Int)) (inner := [.int .u16 5, .int .u16 6, .int .u16 2]) (ok := fun _ => True) (okp := fun _ => True) ?hr ?hp (fun _ hk => hk) trivial (Below.refl _ _) (Nat.le_refl _) (by simp) ?_; (case hd => rfl); (case hg => rfl); (case hr => first | (go_simp; done) | (go_simp; rfl)); (case hp => exact (Reps.one (show Kd.M (Kd.int .u16) _ _ _ 5 [.int .u16 5] from rfl) (Reps.one (show Kd.M (Kd.int .u16) _ _ _ 6 [.int .u16 6] from rfl) (Reps.one (show Kd.M (Kd.int .u16) _ _ _ 2 [.int .u16 2] from rfl) (Reps.none _ _)))))
                       intro v903 w56 ho57 hb hg_ hnew_
                       clear hg_ hnew_
                       (first | rw [← Ny902.out] at ho57 | (simp only [Int.reduceToNat] at ho57; rw [← Ny902.out] at ho57))
                       have n0_ := Aside0.mk (Kd.R_below HO_5.out hb)
                       have n1_ := Aside0.mk (Kd.R_below HO_15.out hb)
                       have n2_ := Aside0.mk (Kd.R_below HO896.out hb)
                       have n3_ := Aside0.mk (Kd.R_lower ho57 (below_size HB.out))
                       have n4_ := Aside0.mk (blk_below (g := gb898) (o := .cells #[.int .i64 t891, .string t892, .bool t893, .slice Ao51 t894.length co51] 28 (0, 0)) BK898.out hb)
                       have n5_ := Aside0.mk (blk_below (g := gb919) (o := .cells #[.int .i64 0, .string (⟨#[]⟩ : ByteArray), .bool false, .slice none 0 0] 28 (0, 0)) BK919.out hb)
                       have n6_ := Aside0.mk (below_step HB.out hb)
                       clear HO_5
                       clear HO_15
                       clear HO896
                       clear BK898
                       clear BK919
                       clear HB
                       have HO_5 := n0_
                       have HO_15 := n1_
                       have HO896 := n2_
                       have HO904 := n3_
                       have BK898 := n4_
                       have BK919 := n5_
                       have HB := n6_
                       clear n0_ n1_ n2_ n3_ n4_ n5_ n6_
                       clear hb ho57
                       obtain ⟨Ao58, co58, eo58⟩ := Kd.R_slice HO904.out
                       subst eo58
                       obtain ⟨ado58, fo58, _⟩ := Kd.at_int (Kd.R_reads' HO904.out).2.2 0 (by decide) (by rw [Ny902.out]; simp)
                       cases fo58
                       refine hK.out _ _ trivial (fun hHeld => ?_)
                       clear hK K
                       refine norm_ (a' := ?_) ?_ ?_
                       rotate_left
                       ·show Act.put _ (some 52) _ = _
                        simp only [Act.put, List.setIfInBounds_toArray, List.set_cons_zero, List.set_cons_succ, i64_w, i32_w]
                        rfl
                       refine pure_ (i := 5) (N := some 55) (v := ?_) (a' := ?_) #[true, false, true, true, true, true, false, false, false, false, false, false, false, false, true, false, false] rfl rfl (any_of HT_.out (by kernel_rfl)) (fun _ _ _ h => h) (Or.inl ⟨by rfl, ?_⟩) ?_ ?_
                       rotate_left
                       ·intro w'
                        go_simp
                        with_reducible rfl
                       rotate_left
                       ·simp only [Act.put, List.setIfInBounds_toArray, List.set_cons_zero, List.set_cons_succ, i64_w, i32_w]
                        rfl
                       exact norm_ (by simp only [putAll, Act.put, List.setIfInBounds_toArray, List.set_cons_zero, List.set_cons_succ]; first | done | rfl) (hJ2_14 (.slice (some ado58) y902.length co58, ado58, gb919) _ ⟨HO896.out, HO904.out, HO_15.out, HO_5.out, ⟨_, rfl⟩, BK898.out, BK919.out, GW919.out, GE919.out, NB898_919.out, NB919_898.out, HB.out⟩)
                    ·skip
                     rintro ⟨v903, adz_v903⟩ w57 ⟨h0_, h1_, h2_, h3_, h4_, h5_, h6_⟩
                     have n0_ : Aside0 (Kd.R k43 43 w57 w.heap.size (fun k_ => nb (.slice Ao8 t880.length co8) k_ ∧ nb (.slice Ao47 x5_1.length co47) k_) (.slice Ao51 t894.length co51) t894) := ⟨h0_⟩
                     have n1_ : Aside0 (Kd.R (Kd.int .u16) 40 w57 w.heap.size (fun _ => True) v903 y902) := ⟨h1_⟩
                     have n2_ : Aside0 (Kd.R k43 43 w57 w.heap.size (fun k_ => nb (.slice Ao51 t894.length co51) k_ ∧ nb (.slice Ao47 x5_1.length co47) k_) (.slice Ao8 t880.length co8) t880) := ⟨h2_⟩
                     have n3_ : Aside0 (Kd.R k43 43 w57 w.heap.size (fun k_ => nb (.slice Ao51 t894.length co51) k_ ∧ nb (.slice Ao8 t880.length co8) k_) (.slice Ao47 x5_1.length co47) x5_1) := ⟨h3_⟩
                     have n4_ : Aside0 (∃ c_, (v903 : Value) = .slice (some adz_v903) y902.length c_) := ⟨h4_⟩
                     have n5_ : Aside0 (w57.heap[gb898]? = some (.cells #[.int .i64 t891, .string t892, .bool t893, .slice Ao51 t894.length co51] 28 (0, 0))) := ⟨h5_⟩
                     have n6_ : Aside0 (Below w.heap.size w w57) := ⟨h6_⟩
                     clear HO_5
                     clear HO_15
                     clear HO896
                     clear BK898
                     clear HB
                     clear h0_ h1_ h2_ h3_ h4_ h5_ h6_
                     have HO896 := n0_
                     have HO904 := n1_
                     have HO_15 := n2_
                     have HO_5 := n3_
                     have HA_HO904 := n4_
                     have BK898 := n5_
                     have HB := n6_
                     clear n0_ n1_ n2_ n3_ n4_ n5_ n6_
                     have hHeld := trivial
                     obtain ⟨co58, eo58⟩ := HA_HO904.out
                     clear HA_HO904
                     subst eo58
                     refine norm_ (a' := ?_) ?_ ?_
                     rotate_left
                     ·simp only [putAll, Act.put, List.setIfInBounds_toArray, List.set_cons_zero, List.set_cons_succ]
                      rfl
                     refine three_ (i := 1) (j := 6) (k := 14) (Ni := some 51) (Nj := some 56) (Nk := some 10) #[true, true, true, true, true, true, false, false, false, false, false, false, false, false, false, false, false] #[true, false, true, true, true, true, true, false, false, false, false, false, false, false, false, false, false] #[true, false, true, true, true, true, false, false, false, false, false, false, false, false, true, false, false] rfl rfl rfl rfl rfl rfl (three_of HT_.out (by kernel_rfl)) (by decide) (by decide) (by decide) (fun K hK => ?_) (fun K hK => ?_) (fun K hK => ?_)
                     ·skip
                      refine Kd.R_append_rows_step k43 (w0 := w) w.heap.size rfl (.const (.slice none 0 0)) (.tmp 50) 26 43 (.agg #[(.string ⟨#[]⟩), (.int .u16 0), (.int .u32 0), (.string ⟨#[]⟩)]) 40 rfl Try.underlying26 info43 rfl (by decide) (by omega) (.slice none 0 0) ([] : List (S43)) x5_1 _ _ _ (fun k_ => nb (.slice Ao47 x5_1.length co47) k_ ∧ nb (.slice Ao8 t880.length co8) k_ ∧ nb (.slice Ao51 t894.length co51) k_) (fun _ => False) rfl rfl ?aO ?aR (fun _ _ h => h) (fun _ h => h.elim) ?aF ?aB ?aS ?aL ?_
                      (case aR => repeat (first | exact (Kd.R_reads' HO_5.out).2.2 | (with_reducible refine Kd.C_alloc ?_ _) | (with_reducible refine Kd.C_drewN ?_ _) | (with_reducible refine Kd.C_drew ?_)))
                      (case aB => exact HB.out)
                      (case aF => exact (fun k_ hk => ⟨Kd.fresh' (Kd.R_lt HO_5.out) k_ hk, Kd.fresh' (Kd.R_lt HO_15.out) k_ hk, Kd.fresh' (Kd.R_lt HO896.out) k_ hk⟩))
                      (case aO => exact ((Kd.R_nil _ _ _ _ (fun k_ => nb (.slice Ao47 x5_1.length co47) k_ ∧ nb (.slice Ao8 t880.length co8) k_ ∧ nb (.slice Ao51 t894.length co51) k_))))
                      (case aS => exact (below_size HB.out))
                      (case aL => have := LMc35.out; omega)
                      intro v900 w59 ho hb hg hat
                      rw [← Ny899.out] at ho
                      have n0_ := Aside0.mk (Kd.R_after (Kd.R_apart_nil HO_5.out) hg hat)
                      have n1_ := Aside0.mk (Kd.R_after (Kd.R_apart_nil HO_15.out) hg hat)
                      have n2_ := Aside0.mk (Kd.R_after (Kd.R_apart_nil HO896.out) hg hat)
                      have n3_ := Aside0.mk (blk_grown (g := gb898) (o := .cells #[.int .i64 t891, .string t892, .bool t893, .slice Ao51 t894.length co51] 28 (0, 0)) BK898.out hg (by simp [Value.ownBlock]))
                      have n4_ := Aside0.mk (Kd.R_grown HO904.out hg (fun _ _ => by simp [Value.ownBlock]))
                      have n5_ := Aside0.mk (hb)
                      have n6_ := Aside0.mk (ho)
                      clear HO_5
                      clear HO_15
                      clear HO896
                      clear BK898
                      clear HO904
                      clear HB
                      have HO_5 := n0_
                      have HO_15 := n1_
                      have HO896 := n2_
                      have BK898 := n3_
                      have HO904 := n4_
                      have HB := n5_
                      have HO901 := n6_
                      clear n0_ n1_ n2_ n3_ n4_ n5_ n6_
                      clear ho hb hg hat
                      refine hK.out _ _ trivial (fun hHeld => ?_)
                      clear hK K
                      refine norm_ (a' := ?_) ?_ ?_
                      rotate_left
                      ·show Act.put _ (some 51) _ = _
                       simp only [Act.put, List.setIfInBounds_toArray, List.set_cons_zero, List.set_cons_succ, i64_w, i32_w]
                       rfl
                      exact norm_ (by simp only [putAll, Act.put, List.setIfInBounds_toArray, List.set_cons_zero, List.set_cons_succ]; first | done | rfl) (hJ1_2 (v900, .slice (some adz_v903) y902.length co58, adz_v903) _ ⟨(Kd.R_mono HO896.out (fun _ hk => ⟨hk.2, ⟨hk.1.1, hk.1.2⟩⟩)), (Kd.R_mono HO901.out (fun _ hk => ⟨hk.2.2, ⟨hk.2.1, hk.1⟩⟩)), HO904.out, (Kd.R_mono HO_15.out (fun _ hk => ⟨hk.1.1, ⟨hk.2, hk.1.2⟩⟩)), (Kd.R_mono HO_5.out (fun _ hk => ⟨hk.1.1, ⟨hk.2, hk.1.2⟩⟩)), ⟨_, rfl⟩, BK898.out, HB.out⟩)
                     ·skip
                      (have p905 : 0 ≤ ((ji36) : Int) := of_decide_eq_true (by first | (with_reducible assumption) | assumption); have q905 : (ji36) < (y902.length : Int) := of_decide_eq_true (by first | (with_reducible assumption) | assumption); obtain ⟨ad905, e905, hx905_0⟩ := Kd.at_int (Kd.R_reads' HO904.out).2.2 (ji36) p905 q905; obtain rfl : adz_v903 = ad905 := (by injection e905))
                      refine value_ (w1 := ?_) (v := ?_) (by rfl) rfl ?_ ?_
                      rotate_left 2
                      ·go_simp
                       constructor
                       ·rfl
                       ·rfl
                      clear hx905_0
                      refine hK.out _ _ trivial (fun hHeld => ?_)
                      clear hK K
                      refine norm_ (a' := ?_) ?_ ?_
                      rotate_left
                      ·show Act.put _ (some 56) _ = _
                       simp only [Act.put, List.setIfInBounds_toArray, List.set_cons_zero, List.set_cons_succ, i64_w, i32_w]
                       rfl
                      refine pure_ (i := 7) (N := some 57) (v := ?_) (a' := ?_) #[true, false, true, true, true, true, true, true, false, false, false, false, false, false, false, false, false] rfl rfl (any_of HT_.out (by kernel_rfl)) (fun _ _ _ h => h) (Or.inl ⟨by rfl, ?_⟩) ?_ ?_
                      rotate_left
                      ·intro w'
                       go_simp
                       with_reducible rfl
                      rotate_left
                      ·simp only [Act.put, List.setIfInBounds_toArray, List.set_cons_zero, List.set_cons_succ, i64_w, i32_w]
                       rfl
                      exact norm_ (by simp only [putAll, Act.put, List.setIfInBounds_toArray, List.set_cons_zero, List.set_cons_succ]; first | done | rfl) (hJ2_6 (.slice (some adz_v903) y902.length co58, adz_v903) _ ⟨HO896.out, HO904.out, HO_15.out, HO_5.out, ⟨_, rfl⟩, BK898.out, HB.out⟩)
                     ·skip
                      refine box_step ?hg (N := 10) ?hd (cs := #[.int .i64 0, .string (⟨#[]⟩ : ByteArray), .bool false, .slice none 0 0]) (t := 28) ?hr ?_; (case hd => rfl); (case hg => rfl); (case hr => first | (go_simp; done) | (go_simp; rfl))
                      intro gb919 hg w59 hbox hb
                      have n0_ := Aside0.mk (Kd.R_below HO_5.out hb)
                      have n1_ := Aside0.mk (Kd.R_below HO_15.out hb)
                      have n2_ := Aside0.mk (Kd.R_below HO896.out hb)
                      have n3_ := Aside0.mk (Kd.R_below HO904.out hb)
                      have n4_ := Aside0.mk (blk_below (g := gb898) (o := .cells #[.int .i64 t891, .string t892, .bool t893, .slice Ao51 t894.length co51] 28 (0, 0)) BK898.out hb)
                      have n5_ := Aside0.mk (below_step HB.out hb)
                      have n6_ := Aside0.mk (hbox)
                      have n7_ := Aside0.mk ((by rw [hg]; exact (below_size HB.out) : w.heap.size ≤ gb919))
                      have n8_ := Aside0.mk ((by rw [hg]; exact (below_size HB.out) : w.heap.size ≤ gb919))
                      have n9_ := Aside0.mk ((by rw [hg]; exact Nat.ne_of_lt (blk_lt (g := gb898) (o := .cells #[.int .i64 t891, .string t892, .bool t893, .slice Ao51 t894.length co51] 28 (0, 0)) BK898.out) : gb898 ≠ gb919))
                      have n10_ := Aside0.mk ((by rw [hg]; exact Nat.ne_of_gt (blk_lt (g := gb898) (o := .cells #[.int .i64 t891, .string t892, .bool t893, .slice Ao51 t894.length co51] 28 (0, 0)) BK898.out) : gb919 ≠ gb898))
                      clear HO_5
                      clear HO_15
                      clear HO896
                      clear HO904
                      clear BK898
                      clear HB
                      have HO_5 := n0_
                      have HO_15 := n1_
                      have HO896 := n2_
                      have HO904 := n3_
                      have BK898 := n4_
                      have HB := n5_
                      have BK919 := n6_
                      have GW919 := n7_
                      have GE919 := n8_
                      have NB898_919 := n9_
                      have NB919_898 := n10_
                      clear n0_ n1_ n2_ n3_ n4_ n5_ n6_ n7_ n8_ n9_ n10_
                      clear hb hbox hg
                      refine hK.out _ _ trivial (fun hHeld => ?_)
                      clear hK K
                      refine norm_ (a' := ?_) ?_ ?_
                      rotate_left
                      ·show Act.put _ (some 10) _ = _
                       simp only [Act.put, List.setIfInBounds_toArray, List.set_cons_zero, List.set_cons_succ, i64_w, i32_w]
                       rfl
                      exact norm_ (by simp only [putAll, Act.put, List.setIfInBounds_toArray, List.set_cons_zero, List.set_cons_succ]; first | done | rfl) (hJ2_14 (.slice (some adz_v903) y902.length co58, adz_v903, gb919) _ ⟨HO896.out, HO904.out, HO_15.out, HO_5.out, ⟨_, rfl⟩, BK898.out, BK919.out, GW919.out, GE919.out, NB898_919.out, NB919_898.out, HB.out⟩)
                   ·skip
                    rintro v900 w55 ⟨h0_, h1_, h2_, h3_, h4_, h5_⟩
                    have n0_ : Aside0 (Kd.R k43 43 w55 w.heap.size (fun k_ => nb v900 k_ ∧ nb (.slice Ao8 t880.length co8) k_ ∧ nb (.slice Ao47 x5_1.length co47) k_) (.slice Ao51 t894.length co51) t894) := ⟨h0_⟩
                    have n1_ : Aside0 (Kd.R k43 43 w55 w.heap.size (fun k_ => nb (.slice Ao51 t894.length co51) k_ ∧ nb (.slice Ao8 t880.length co8) k_ ∧ nb (.slice Ao47 x5_1.length co47) k_) v900 y899) := ⟨h1_⟩
                    have n2_ : Aside0 (Kd.R k43 43 w55 w.heap.size (fun k_ => nb (.slice Ao51 t894.length co51) k_ ∧ nb v900 k_ ∧ nb (.slice Ao47 x5_1.length co47) k_) (.slice Ao8 t880.length co8) t880) := ⟨h2_⟩
                    have n3_ : Aside0 (Kd.R k43 43 w55 w.heap.size (fun k_ => nb (.slice Ao51 t894.length co51) k_ ∧ nb v900 k_ ∧ nb (.slice Ao8 t880.length co8) k_) (.slice Ao47 x5_1.length co47) x5_1) := ⟨h3_⟩
                    have n4_ : Aside0 (w55.heap[gb898]? = some (.cells #[.int .i64 t891, .string t892, .bool t893, .slice Ao51 t894.length co51] 28 (0, 0))) := ⟨h4_⟩
                    have n5_ : Aside0 (Below w.heap.size w w55) := ⟨h5_⟩
                    clear HO_5
                    clear HO_15
                    clear HO896
                    clear BK898
                    clear HB
                    clear h0_ h1_ h2_ h3_ h4_ h5_
                    have HO896 := n0_
                    have HO901 := n1_
                    have HO_15 := n2_
                    have HO_5 := n3_
                    have BK898 := n4_
                    have HB := n5_
                    clear n0_ n1_ n2_ n3_ n4_ n5_
                    have hHeld := trivial
                    refine norm_ (a' := ?_) ?_ ?_
                    rotate_left
                    ·simp only [putAll, Act.put, List.setIfInBounds_toArray, List.set_cons_zero, List.set_cons_succ]
                     rfl
                    refine two_ (i := 2) (j := 14) (Ni := some 52) (Nj := some 10) #[true, true, true, true, true, false, false, false, false, false, false, false, false, false, false, false, false] #[true, true, false, true, true, false, false, false, false, false, false, false, false, false, true, false, false] rfl rfl rfl rfl (two_of HT_.out (by kernel_rfl)) (by decide) (by decide) (fun K hK => ?_) (fun K hK => ?_)
                    ·skip
                     refine Kd.R_lit_step (Kd.int .u16) _ 40 ?hg (N := 52) ?hd (xs := ([5, 6, 2] : List Int)) (inner := [.int .u16 5, .int .u16 6, .int .u16 2]) (ok := fun _ => True) (okp := fun _ => True) ?hr ?hp (fun _ hk => hk) trivial (Below.refl _ _) (Nat.le_refl _) (by simp) ?_; (case hd => rfl); (case hg => rfl); (case hr => first | (go_simp; done) | (go_simp; rfl)); (case hp => exact (Reps.one (show Kd.M (Kd.int .u16) _ _ _ 5 [.int .u16 5] from rfl) (Reps.one (show Kd.M (Kd.int .u16) _ _ _ 6 [.int .u16 6] from rfl) (Reps.one (show Kd.M (Kd.int .u16) _ _ _ 2 [.int .u16 2] from rfl) (Reps.none _ _)))))
                     intro v903 w56 ho57 hb hg_ hnew_
                     clear hg_ hnew_
                     (first | rw [← Ny902.out] at ho57 | (simp only [Int.reduceToNat] at ho57; rw [← Ny902.out] at ho57))
                     have n0_ := Aside0.mk (Kd.R_below HO_5.out hb)
                     have n1_ := Aside0.mk (Kd.R_below HO_15.out hb)
                     have n2_ := Aside0.mk (Kd.R_below HO896.out hb)
                     have n3_ := Aside0.mk (Kd.R_below HO901.out hb)
                     have n4_ := Aside0.mk (Kd.R_lower ho57 (below_size HB.out))
                     have n5_ := Aside0.mk (blk_below (g := gb898) (o := .cells #[.int .i64 t891, .string t892, .bool t893, .slice Ao51 t894.length co51] 28 (0, 0)) BK898.out hb)
                     have n6_ := Aside0.mk (below_step HB.out hb)
                     clear HO_5
                     clear HO_15
                     clear HO896
                     clear HO901
                     clear BK898
                     clear HB
                     have HO_5 := n0_
                     have HO_15 := n1_
                     have HO896 := n2_
                     have HO901 := n3_
                     have HO904 := n4_
                     have BK898 := n5_
                     have HB := n6_
                     clear n0_ n1_ n2_ n3_ n4_ n5_ n6_
                     clear hb ho57
                     obtain ⟨Ao58, co58, eo58⟩ := Kd.R_slice HO904.out
                     subst eo58
                     obtain ⟨ado58, fo58, _⟩ := Kd.at_int (Kd.R_reads' HO904.out).2.2 0 (by decide) (by rw [Ny902.out]; simp)
                     cases fo58
                     refine hK.out _ _ trivial (fun hHeld => ?_)
                     clear hK K
                     refine norm_ (a' := ?_) ?_ ?_
                     rotate_left
                     ·show Act.put _ (some 52) _ = _
                      simp only [Act.put, List.setIfInBounds_toArray, List.set_cons_zero, List.set_cons_succ, i64_w, i32_w]
                      rfl
                     refine pure_ (i := 5) (N := some 55) (v := ?_) (a' := ?_) #[true, true, true, true, true, true, false, false, false, false, false, false, false, false, false, false, false] rfl rfl (any_of HT_.out (by kernel_rfl)) (fun _ _ _ h => h) (Or.inl ⟨by rfl, ?_⟩) ?_ ?_
                     rotate_left
                     ·intro w'
                      go_simp
                      with_reducible rfl
                     rotate_left
                     ·simp only [Act.put, List.setIfInBounds_toArray, List.set_cons_zero, List.set_cons_succ, i64_w, i32_w]
                      rfl
                     exact norm_ (by simp only [putAll, Act.put, List.setIfInBounds_toArray, List.set_cons_zero, List.set_cons_succ]; first | done | rfl) (hJ1_2 (v900, .slice (some ado58) y902.length co58, ado58) _ ⟨HO896.out, HO901.out, HO904.out, HO_15.out, HO_5.out, ⟨_, rfl⟩, BK898.out, HB.out⟩)
                    ·skip
                     refine box_step ?hg (N := 10) ?hd (cs := #[.int .i64 0, .string (⟨#[]⟩ : ByteArray), .bool false, .slice none 0 0]) (t := 28) ?hr ?_; (case hd => rfl); (case hg => rfl); (case hr => first | (go_simp; done) | (go_simp; rfl))
                     intro gb919 hg w56 hbox hb
                     have n0_ := Aside0.mk (Kd.R_below HO_5.out hb)
                     have n1_ := Aside0.mk (Kd.R_below HO_15.out hb)
                     have n2_ := Aside0.mk (Kd.R_below HO896.out hb)
                     have n3_ := Aside0.mk (Kd.R_below HO901.out hb)
                     have n4_ := Aside0.mk (blk_below (g := gb898) (o := .cells #[.int .i64 t891, .string t892, .bool t893, .slice Ao51 t894.length co51] 28 (0, 0)) BK898.out hb)
                     have n5_ := Aside0.mk (below_step HB.out hb)
                     have n6_ := Aside0.mk (hbox)
                     have n7_ := Aside0.mk ((by rw [hg]; exact (below_size HB.out) : w.heap.size ≤ gb919))
                     have n8_ := Aside0.mk ((by rw [hg]; exact (below_size HB.out) : w.heap.size ≤ gb919))
                     have n9_ := Aside0.mk ((by rw [hg]; exact Nat.ne_of_lt (blk_lt (g := gb898) (o := .cells #[.int .i64 t891, .string t892, .bool t893, .slice Ao51 t894.length co51] 28 (0, 0)) BK898.out) : gb898 ≠ gb919))
                     have n10_ := Aside0.mk ((by rw [hg]; exact Nat.ne_of_gt (blk_lt (g := gb898) (o := .cells #[.int .i64 t891, .string t892, .bool t893, .slice Ao51 t894.length co51] 28 (0, 0)) BK898.out) : gb919 ≠ gb898))
                     clear HO_5
                     clear HO_15
                     clear HO896
                     clear HO901
                     clear BK898
                     clear HB
                     have HO_5 := n0_
                     have HO_15 := n1_
                     have HO896 := n2_
                     have HO901 := n3_
                     have BK898 := n4_
                     have HB := n5_
                     have BK919 := n6_
                     have GW919 := n7_
                     have GE919 := n8_
                     have NB898_919 := n9_
                     have NB919_898 := n10_
                     clear n0_ n1_ n2_ n3_ n4_ n5_ n6_ n7_ n8_ n9_ n10_
                     clear hb hbox hg
                     refine hK.out _ _ trivial (fun hHeld => ?_)
                     clear hK K
                     refine norm_ (a' := ?_) ?_ ?_
                     rotate_left
                     ·show Act.put _ (some 10) _ = _
                      simp only [Act.put, List.setIfInBounds_toArray, List.set_cons_zero, List.set_cons_succ, i64_w, i32_w]
                      rfl
                     exact norm_ (by simp only [putAll, Act.put, List.setIfInBounds_toArray, List.set_cons_zero, List.set_cons_succ]; first | done | rfl) (hJ1_14 (v900, gb919) _ ⟨HO896.out, HO901.out, HO_15.out, HO_5.out, BK898.out, BK919.out, GW919.out, GE919.out, NB898_919.out, NB919_898.out, HB.out⟩)
                  ·skip
                   rintro ⟨v903, adz_v903, gb919⟩ w58 ⟨h0_, h1_, h2_, h3_, h4_, h5_, h6_, h7_, h8_, h9_, h10_, h11_⟩
                   have n0_ : Aside0 (Kd.R k43 43 w58 w.heap.size (fun k_ => nb (.slice Ao8 t880.length co8) k_ ∧ nb (.slice Ao47 x5_1.length co47) k_) (.slice Ao51 t894.length co51) t894) := ⟨h0_⟩
                   have n1_ : Aside0 (Kd.R (Kd.int .u16) 40 w58 w.heap.size (fun _ => True) v903 y902) := ⟨h1_⟩
                   have n2_ : Aside0 (Kd.R k43 43 w58 w.heap.size (fun k_ => nb (.slice Ao51 t894.length co51) k_ ∧ nb (.slice Ao47 x5_1.length co47) k_) (.slice Ao8 t880.length co8) t880) := ⟨h2_⟩
                   have n3_ : Aside0 (Kd.R k43 43 w58 w.heap.size (fun k_ => nb (.slice Ao51 t894.length co51) k_ ∧ nb (.slice Ao8 t880.length co8) k_) (.slice Ao47 x5_1.length co47) x5_1) := ⟨h3_⟩
                   have n4_ : Aside0 (∃ c_, (v903 : Value) = .slice (some adz_v903) y902.length c_) := ⟨h4_⟩
                   have n5_ : Aside0 (w58.heap[gb898]? = some (.cells #[.int .i64 t891, .string t892, .bool t893, .slice Ao51 t894.length co51] 28 (0, 0))) := ⟨h5_⟩
                   have n6_ : Aside0 (w58.heap[gb919]? = some (.cells #[.int .i64 0, .string (⟨#[]⟩ : ByteArray), .bool false, .slice none 0 0] 28 (0, 0))) := ⟨h6_⟩
                   have n7_ : Aside0 (w.heap.size ≤ gb919) := ⟨h7_⟩
                   have n8_ : Aside0 (w.heap.size ≤ gb919) := ⟨h8_⟩
                   have n9_ : Aside0 (gb898 ≠ gb919) := ⟨h9_⟩
                   have n10_ : Aside0 (gb919 ≠ gb898) := ⟨h10_⟩
                   have n11_ : Aside0 (Below w.heap.size w w58) := ⟨h11_⟩
                   clear HO_5
                   clear HO_15
                   clear HO896
                   clear BK898
                   clear HB
                   clear h0_ h1_ h2_ h3_ h4_ h5_ h6_ h7_ h8_ h9_ h10_ h11_
                   have HO896 := n0_
                   have HO904 := n1_
                   have HO_15 := n2_
                   have HO_5 := n3_
                   have HA_HO904 := n4_
                   have BK898 := n5_
                   have BK919 := n6_
                   have GW919 := n7_
                   have GE919 := n8_
                   have NB898_919 := n9_
                   have NB919_898 := n10_
                   have HB := n11_
                   clear n0_ n1_ n2_ n3_ n4_ n5_ n6_ n7_ n8_ n9_ n10_ n11_
                   have hHeld := trivial
                   obtain ⟨co59, eo59⟩ := HA_HO904.out
                   clear HA_HO904
                   subst eo59
                   refine norm_ (a' := ?_) ?_ ?_
                   rotate_left
                   ·simp only [putAll, Act.put, List.setIfInBounds_toArray, List.set_cons_zero, List.set_cons_succ]
                    rfl
                   refine two_ (i := 1) (j := 6) (Ni := some 51) (Nj := some 56) #[true, true, true, true, true, true, false, false, false, false, false, false, false, false, true, false, false] #[true, false, true, true, true, true, true, false, false, false, false, false, false, false, true, false, false] rfl rfl rfl rfl (two_of HT_.out (by kernel_rfl)) (by decide) (by decide) (fun K hK => ?_) (fun K hK => ?_)
                   ·skip
                    refine Kd.R_append_rows_step k43 (w0 := w) w.heap.size rfl (.const (.slice none 0 0)) (.tmp 50) 26 43 (.agg #[(.string ⟨#[]⟩), (.int .u16 0), (.int .u32 0), (.string ⟨#[]⟩)]) 40 rfl Try.underlying26 info43 rfl (by decide) (by omega) (.slice none 0 0) ([] : List (S43)) x5_1 _ _ _ (fun k_ => nb (.slice Ao47 x5_1.length co47) k_ ∧ nb (.slice Ao8 t880.length co8) k_ ∧ nb (.slice Ao51 t894.length co51) k_) (fun _ => False) rfl rfl ?aO ?aR (fun _ _ h => h) (fun _ h => h.elim) ?aF ?aB ?aS ?aL ?_
                    (case aR => repeat (first | exact (Kd.R_reads' HO_5.out).2.2 | (with_reducible refine Kd.C_alloc ?_ _) | (with_reducible refine Kd.C_drewN ?_ _) | (with_reducible refine Kd.C_drew ?_)))
                    (case aB => exact HB.out)
                    (case aF => exact (fun k_ hk => ⟨Kd.fresh' (Kd.R_lt HO_5.out) k_ hk, Kd.fresh' (Kd.R_lt HO_15.out) k_ hk, Kd.fresh' (Kd.R_lt HO896.out) k_ hk⟩))
                    (case aO => exact ((Kd.R_nil _ _ _ _ (fun k_ => nb (.slice Ao47 x5_1.length co47) k_ ∧ nb (.slice Ao8 t880.length co8) k_ ∧ nb (.slice Ao51 t894.length co51) k_))))
                    (case aS => exact (below_size HB.out))
                    (case aL => have := LMc35.out; omega)
                    intro v900 w60 ho hb hg hat
                    rw [← Ny899.out] at ho
                    have n0_ := Aside0.mk (Kd.R_after (Kd.R_apart_nil HO_5.out) hg hat)
                    have n1_ := Aside0.mk (Kd.R_after (Kd.R_apart_nil HO_15.out) hg hat)
                    have n2_ := Aside0.mk (Kd.R_after (Kd.R_apart_nil HO896.out) hg hat)
                    have n3_ := Aside0.mk (blk_grown (g := gb898) (o := .cells #[.int .i64 t891, .string t892, .bool t893, .slice Ao51 t894.length co51] 28 (0, 0)) BK898.out hg (by simp [Value.ownBlock]))
                    have n4_ := Aside0.mk (Kd.R_grown HO904.out hg (fun _ _ => by simp [Value.ownBlock]))
                    have n5_ := Aside0.mk (blk_grown (g := gb919) (o := .cells #[.int .i64 0, .string (⟨#[]⟩ : ByteArray), .bool false, .slice none 0 0] 28 (0, 0)) BK919.out hg (by simp [Value.ownBlock]))
                    have n6_ := Aside0.mk (hb)
                    have n7_ := Aside0.mk (ho)
                    clear HO_5
                    clear HO_15
                    clear HO896
                    clear BK898
                    clear HO904
                    clear BK919
                    clear HB
                    have HO_5 := n0_
                    have HO_15 := n1_
                    have HO896 := n2_
                    have BK898 := n3_
                    have HO904 := n4_
                    have BK919 := n5_
                    have HB := n6_
                    have HO901 := n7_
                    clear n0_ n1_ n2_ n3_ n4_ n5_ n6_ n7_
                    clear ho hb hg hat
                    refine hK.out _ _ trivial (fun hHeld => ?_)
                    clear hK K
                    refine norm_ (a' := ?_) ?_ ?_
                    rotate_left
                    ·show Act.put _ (some 51) _ = _
                     simp only [Act.put, List.setIfInBounds_toArray, List.set_cons_zero, List.set_cons_succ, i64_w, i32_w]
                     rfl
                    exact norm_ (by simp only [putAll, Act.put, List.setIfInBounds_toArray, List.set_cons_zero, List.set_cons_succ]; first | done | rfl) (hJ1_2_14 (v900, .slice (some adz_v903) y902.length co59, adz_v903, gb919) _ ⟨(Kd.R_mono HO896.out (fun _ hk => ⟨hk.2, ⟨hk.1.1, hk.1.2⟩⟩)), (Kd.R_mono HO901.out (fun _ hk => ⟨hk.2.2, ⟨hk.2.1, hk.1⟩⟩)), HO904.out, (Kd.R_mono HO_15.out (fun _ hk => ⟨hk.1.1, ⟨hk.2, hk.1.2⟩⟩)), (Kd.R_mono HO_5.out (fun _ hk => ⟨hk.1.1, ⟨hk.2, hk.1.2⟩⟩)), ⟨_, rfl⟩, BK898.out, BK919.out, GW919.out, GE919.out, NB898_919.out, NB919_898.out, HB.out⟩)
                   ·skip
                    (have p905 : 0 ≤ ((ji36) : Int) := of_decide_eq_true (by first | (with_reducible assumption) | assumption); have q905 : (ji36) < (y902.length : Int) := of_decide_eq_true (by first | (with_reducible assumption) | assumption); obtain ⟨ad905, e905, hx905_0⟩ := Kd.at_int (Kd.R_reads' HO904.out).2.2 (ji36) p905 q905; obtain rfl : adz_v903 = ad905 := (by injection e905))
                    refine value_ (w1 := ?_) (v := ?_) (by rfl) rfl ?_ ?_
                    rotate_left 2
                    ·go_simp
                     constructor
                     ·rfl
                     ·rfl
                    clear hx905_0
                    refine hK.out _ _ trivial (fun hHeld => ?_)
                    clear hK K
                    refine norm_ (a' := ?_) ?_ ?_
                    rotate_left
                    ·show Act.put _ (some 56) _ = _
                     simp only [Act.put, List.setIfInBounds_toArray, List.set_cons_zero, List.set_cons_succ, i64_w, i32_w]
                     rfl
                    refine pure_ (i := 7) (N := some 57) (v := ?_) (a' := ?_) #[true, false, true, true, true, true, true, true, false, false, false, false, false, false, true, false, false] rfl rfl (any_of HT_.out (by kernel_rfl)) (fun _ _ _ h => h) (Or.inl ⟨by rfl, ?_⟩) ?_ ?_
                    rotate_left
                    ·intro w'
                     go_simp
                     with_reducible rfl
                    rotate_left
                    ·simp only [Act.put, List.setIfInBounds_toArray, List.set_cons_zero, List.set_cons_succ, i64_w, i32_w]
                     rfl
                    exact norm_ (by simp only [putAll, Act.put, List.setIfInBounds_toArray, List.set_cons_zero, List.set_cons_succ]; first | done | rfl) (hJ2_6_14 (.slice (some adz_v903) y902.length co59, adz_v903, gb919) _ ⟨HO896.out, HO904.out, HO_15.out, HO_5.out, ⟨_, rfl⟩, BK898.out, BK919.out, GW919.out, GE919.out, NB898_919.out, NB919_898.out, HB.out⟩)
                 ·skip
                  rintro ⟨v903, adz_v903⟩ w57 ⟨h0_, h1_, h2_, h3_, h4_, h5_, h6_⟩
                  have n0_ : Aside0 (Kd.R k43 43 w57 w.heap.size (fun k_ => nb (.slice Ao8 t880.length co8) k_ ∧ nb (.slice Ao47 x5_1.length co47) k_) (.slice Ao51 t894.length co51) t894) := ⟨h0_⟩
                  have n1_ : Aside0 (Kd.R (Kd.int .u16) 40 w57 w.heap.size (fun _ => True) v903 y902) := ⟨h1_⟩
                  have n2_ : Aside0 (Kd.R k43 43 w57 w.heap.size (fun k_ => nb (.slice Ao51 t894.length co51) k_ ∧ nb (.slice Ao47 x5_1.length co47) k_) (.slice Ao8 t880.length co8) t880) := ⟨h2_⟩
                  have n3_ : Aside0 (Kd.R k43 43 w57 w.heap.size (fun k_ => nb (.slice Ao51 t894.length co51) k_ ∧ nb (.slice Ao8 t880.length co8) k_) (.slice Ao47 x5_1.length co47) x5_1) := ⟨h3_⟩
                  have n4_ : Aside0 (∃ c_, (v903 : Value) = .slice (some adz_v903) y902.length c_) := ⟨h4_⟩
                  have n5_ : Aside0 (w57.heap[gb898]? = some (.cells #[.int .i64 t891, .string t892, .bool t893, .slice Ao51 t894.length co51] 28 (0, 0))) := ⟨h5_⟩
                  have n6_ : Aside0 (Below w.heap.size w w57) := ⟨h6_⟩
                  clear HO_5
                  clear HO_15
                  clear HO896
                  clear BK898
                  clear HB
                  clear h0_ h1_ h2_ h3_ h4_ h5_ h6_
                  have HO896 := n0_
                  have HO904 := n1_
                  have HO_15 := n2_
                  have HO_5 := n3_
                  have HA_HO904 := n4_
                  have BK898 := n5_
                  have HB := n6_
                  clear n0_ n1_ n2_ n3_ n4_ n5_ n6_
                  have hHeld := trivial
                  obtain ⟨co58, eo58⟩ := HA_HO904.out
                  clear HA_HO904
                  subst eo58
                  refine norm_ (a' := ?_) ?_ ?_
                  rotate_left
                  ·simp only [putAll, Act.put, List.setIfInBounds_toArray, List.set_cons_zero, List.set_cons_succ]
                   rfl
                  refine three_ (i := 1) (j := 8) (k := 14) (Ni := some 51) (Nj := some 58) (Nk := some 10) #[true, true, true, true, true, true, true, true, false, false, false, false, false, false, false, false, false] #[true, false, true, true, true, true, true, true, true, false, false, false, false, false, false, false, false] #[true, false, true, true, true, true, true, true, false, false, false, false, false, false, true, false, false] rfl rfl rfl rfl rfl rfl (three_of HT_.out (by kernel_rfl)) (by decide) (by decide) (by decide) (fun K hK => ?_) (fun K hK => ?_) (fun K hK => ?_)
                  ·skip
                   refine Kd.R_append_rows_step k43 (w0 := w) w.heap.size rfl (.const (.slice none 0 0)) (.tmp 50) 26 43 (.agg #[(.string ⟨#[]⟩), (.int .u16 0), (.int .u32 0), (.string ⟨#[]⟩)]) 40 rfl Try.underlying26 info43 rfl (by decide) (by omega) (.slice none 0 0) ([] : List (S43)) x5_1 _ _ _ (fun k_ => nb (.slice Ao47 x5_1.length co47) k_ ∧ nb (.slice Ao8 t880.length co8) k_ ∧ nb (.slice Ao51 t894.length co51) k_) (fun _ => False) rfl rfl ?aO ?aR (fun _ _ h => h) (fun _ h => h.elim) ?aF ?aB ?aS ?aL ?_
                   (case aR => repeat (first | exact (Kd.R_reads' HO_5.out).2.2 | (with_reducible refine Kd.C_alloc ?_ _) | (with_reducible refine Kd.C_drewN ?_ _) | (with_reducible refine Kd.C_drew ?_)))
                   (case aB => exact HB.out)
                   (case aF => exact (fun k_ hk => ⟨Kd.fresh' (Kd.R_lt HO_5.out) k_ hk, Kd.fresh' (Kd.R_lt HO_15.out) k_ hk, Kd.fresh' (Kd.R_lt HO896.out) k_ hk⟩))
                   (case aO => exact ((Kd.R_nil _ _ _ _ (fun k_ => nb (.slice Ao47 x5_1.length co47) k_ ∧ nb (.slice Ao8 t880.length co8) k_ ∧ nb (.slice Ao51 t894.length co51) k_))))
                   (case aS => exact (below_size HB.out))
                   (case aL => have := LMc35.out; omega)
                   intro v900 w59 ho hb hg hat
                   rw [← Ny899.out] at ho
                   have n0_ := Aside0.mk (Kd.R_after (Kd.R_apart_nil HO_5.out) hg hat)
                   have n1_ := Aside0.mk (Kd.R_after (Kd.R_apart_nil HO_15.out) hg hat)
                   have n2_ := Aside0.mk (Kd.R_after (Kd.R_apart_nil HO896.out) hg hat)
                   have n3_ := Aside0.mk (blk_grown (g := gb898) (o := .cells #[.int .i64 t891, .string t892, .bool t893, .slice Ao51 t894.length co51] 28 (0, 0)) BK898.out hg (by simp [Value.ownBlock]))
                   have n4_ := Aside0.mk (Kd.R_grown HO904.out hg (fun _ _ => by simp [Value.ownBlock]))
                   have n5_ := Aside0.mk (hb)
                   have n6_ := Aside0.mk (ho)
                   clear HO_5
                   clear HO_15
                   clear HO896
                   clear BK898
                   clear HO904
                   clear HB
                   have HO_5 := n0_
                   have HO_15 := n1_
                   have HO896 := n2_
                   have BK898 := n3_
                   have HO904 := n4_
                   have HB := n5_
                   have HO901 := n6_
                   clear n0_ n1_ n2_ n3_ n4_ n5_ n6_
                   clear ho hb hg hat
                   refine hK.out _ _ trivial (fun hHeld => ?_)
                   clear hK K
                   refine norm_ (a' := ?_) ?_ ?_
                   rotate_left
                   ·show Act.put _ (some 51) _ = _
                    simp only [Act.put, List.setIfInBounds_toArray, List.set_cons_zero, List.set_cons_succ, i64_w, i32_w]
                    rfl
                   exact norm_ (by simp only [putAll, Act.put, List.setIfInBounds_toArray, List.set_cons_zero, List.set_cons_succ]; first | done | rfl) (hJ1_2_6 (v900, .slice (some adz_v903) y902.length co58, adz_v903) _ ⟨(Kd.R_mono HO896.out (fun _ hk => ⟨hk.2, ⟨hk.1.1, hk.1.2⟩⟩)), (Kd.R_mono HO901.out (fun _ hk => ⟨hk.2.2, ⟨hk.2.1, hk.1⟩⟩)), HO904.out, (Kd.R_mono HO_15.out (fun _ hk => ⟨hk.1.1, ⟨hk.2, hk.1.2⟩⟩)), (Kd.R_mono HO_5.out (fun _ hk => ⟨hk.1.1, ⟨hk.2, hk.1.2⟩⟩)), ⟨_, rfl⟩, BK898.out, HB.out⟩)
                  ·skip
                   refine Kd.R_lit_step k43 _ 43 ?hg (N := 58) ?hd (xs := ([(⟨(⟨#[]⟩ : ByteArray), rd y902 (ji36), 0, (⟨#[]⟩ : ByteArray)⟩ : S43)] : List (S43))) (inner := [.string (⟨#[]⟩ : ByteArray), .int .u16 (rd y902 (ji36)), .int .u32 0, .string (⟨#[]⟩ : ByteArray)]) (ok := fun _ => True) (okp := fun _ => True) ?hr ?hp (fun _ hk => hk) trivial (Below.refl _ _) (Nat.le_refl _) (by simp) ?_; (case hd => rfl); (case hg => rfl); (case hr => first | (go_simp; done) | (go_simp; rfl)); (case hp => exact (Reps.c4 (show Kd.M k43 _ _ _ (⟨(⟨#[]⟩ : ByteArray), rd y902 (ji36), 0, (⟨#[]⟩ : ByteArray)⟩ : S43) [.string (⟨#[]⟩ : ByteArray), .int .u16 (rd y902 (ji36)), .int .u32 0, .string (⟨#[]⟩ : ByteArray)] from (k43_mkM _ _ _ (⟨(⟨#[]⟩ : ByteArray), rd y902 (ji36), 0, (⟨#[]⟩ : ByteArray)⟩ : S43) )) (Reps.none _ _)))
                   intro v907 w59 ho60 hb hg_ hnew_
                   clear hg_ hnew_
                   (first | rw [← Ny906.out] at ho60 | (simp only [Int.reduceToNat] at ho60; rw [← Ny906.out] at ho60))
                   have n0_ := Aside0.mk (Kd.R_elder' HO_5.out (Kd.R_base ho60) hb)
                   have n1_ := Aside0.mk (Kd.R_elder' HO_15.out (Kd.R_base ho60) hb)
                   have n2_ := Aside0.mk (Kd.R_elder' HO896.out (Kd.R_base ho60) hb)
                   have n3_ := Aside0.mk (Kd.R_below HO904.out hb)
                   have n4_ := Aside0.mk (Kd.R_lower (Kd.R_new' (Kd.R_new' (Kd.R_new' ho60 (Kd.R_lt HO_5.out)) (Kd.R_lt HO_15.out)) (Kd.R_lt HO896.out)) (below_size HB.out))
                   have n5_ := Aside0.mk (blk_below (g := gb898) (o := .cells #[.int .i64 t891, .string t892, .bool t893, .slice Ao51 t894.length co51] 28 (0, 0)) BK898.out hb)
                   have n6_ := Aside0.mk (below_step HB.out hb)
                   clear HO_5
                   clear HO_15
                   clear HO896
                   clear HO904
                   clear BK898
                   clear HB
                   have HO_5 := n0_
                   have HO_15 := n1_
                   have HO896 := n2_
                   have HO904 := n3_
                   have HO908 := n4_
                   have BK898 := n5_
                   have HB := n6_
                   clear n0_ n1_ n2_ n3_ n4_ n5_ n6_
                   clear hb ho60
                   refine hK.out _ _ trivial (fun hHeld => ?_)
                   clear hK K
                   refine norm_ (a' := ?_) ?_ ?_
                   rotate_left
                   ·show Act.put _ (some 58) _ = _
                    simp only [Act.put, List.setIfInBounds_toArray, List.set_cons_zero, List.set_cons_succ, i64_w, i32_w]
                    rfl
                   exact norm_ (by simp only [putAll, Act.put, List.setIfInBounds_toArray, List.set_cons_zero, List.set_cons_succ]; first | done | rfl) (hJ2_6_8 (.slice (some adz_v903) y902.length co58, adz_v903, v907) _ ⟨(Kd.R_mono HO896.out (fun _ hk => ⟨hk.2, ⟨hk.1.1, hk.1.2⟩⟩)), HO904.out, (Kd.R_mono HO908.out (fun _ hk => ⟨hk.2, ⟨hk.1.2, hk.1.1.2⟩⟩)), (Kd.R_mono HO_15.out (fun _ hk => ⟨hk.1.1, ⟨hk.2, hk.1.2⟩⟩)), (Kd.R_mono HO_5.out (fun _ hk => ⟨hk.1.1, ⟨hk.2, hk.1.2⟩⟩)), ⟨_, rfl⟩, BK898.out, HB.out⟩)
                  ·skip
                   refine box_step ?hg (N := 10) ?hd (cs := #[.int .i64 0, .string (⟨#[]⟩ : ByteArray), .bool false, .slice none 0 0]) (t := 28) ?hr ?_; (case hd => rfl); (case hg => rfl); (case hr => first | (go_simp; done) | (go_simp; rfl))
                   intro gb919 hg w59 hbox hb
                   have n0_ := Aside0.mk (Kd.R_below HO_5.out hb)
                   have n1_ := Aside0.mk (Kd.R_below HO_15.out hb)
                   have n2_ := Aside0.mk (Kd.R_below HO896.out hb)
                   have n3_ := Aside0.mk (Kd.R_below HO904.out hb)
                   have n4_ := Aside0.mk (blk_below (g := gb898) (o := .cells #[.int .i64 t891, .string t892, .bool t893, .slice Ao51 t894.length co51] 28 (0, 0)) BK898.out hb)
                   have n5_ := Aside0.mk (below_step HB.out hb)
                   have n6_ := Aside0.mk (hbox)
                   have n7_ := Aside0.mk ((by rw [hg]; exact (below_size HB.out) : w.heap.size ≤ gb919))
                   have n8_ := Aside0.mk ((by rw [hg]; exact (below_size HB.out) : w.heap.size ≤ gb919))
                   have n9_ := Aside0.mk ((by rw [hg]; exact Nat.ne_of_lt (blk_lt (g := gb898) (o := .cells #[.int .i64 t891, .string t892, .bool t893, .slice Ao51 t894.length co51] 28 (0, 0)) BK898.out) : gb898 ≠ gb919))
                   have n10_ := Aside0.mk ((by rw [hg]; exact Nat.ne_of_gt (blk_lt (g := gb898) (o := .cells #[.int .i64 t891, .string t892, .bool t893, .slice Ao51 t894.length co51] 28 (0, 0)) BK898.out) : gb919 ≠ gb898))
                   clear HO_5
                   clear HO_15
                   clear HO896
                   clear HO904
                   clear BK898
                   clear HB
                   have HO_5 := n0_
                   have HO_15 := n1_
                   have HO896 := n2_
                   have HO904 := n3_
                   have BK898 := n4_
                   have HB := n5_
                   have BK919 := n6_
                   have GW919 := n7_
                   have GE919 := n8_
                   have NB898_919 := n9_
                   have NB919_898 := n10_
                   clear n0_ n1_ n2_ n3_ n4_ n5_ n6_ n7_ n8_ n9_ n10_
                   clear hb hbox hg
                   refine hK.out _ _ trivial (fun hHeld => ?_)
                   clear hK K
                   refine norm_ (a' := ?_) ?_ ?_
                   rotate_left
                   ·show Act.put _ (some 10) _ = _
                    simp only [Act.put, List.setIfInBounds_toArray, List.set_cons_zero, List.set_cons_succ, i64_w, i32_w]
                    rfl
                   exact norm_ (by simp only [putAll, Act.put, List.setIfInBounds_toArray, List.set_cons_zero, List.set_cons_succ]; first | done | rfl) (hJ2_6_14 (.slice (some adz_v903) y902.length co58, adz_v903, gb919) _ ⟨HO896.out, HO904.out, HO_15.out, HO_5.out, ⟨_, rfl⟩, BK898.out, BK919.out, GW919.out, GE919.out, NB898_919.out, NB919_898.out, HB.out⟩)
                ·skip
                 rintro ⟨v900, gb919⟩ w56 ⟨h0_, h1_, h2_, h3_, h4_, h5_, h6_, h7_, h8_, h9_, h10_⟩
                 have n0_ : Aside0 (Kd.R k43 43 w56 w.heap.size (fun k_ => nb v900 k_ ∧ nb (.slice Ao8 t880.length co8) k_ ∧ nb (.slice Ao47 x5_1.length co47) k_) (.slice Ao51 t894.length co51) t894) := ⟨h0_⟩
                 have n1_ : Aside0 (Kd.R k43 43 w56 w.heap.size (fun k_ => nb (.slice Ao51 t894.length co51) k_ ∧ nb (.slice Ao8 t880.length co8) k_ ∧ nb (.slice Ao47 x5_1.length co47) k_) v900 y899) := ⟨h1_⟩
                 have n2_ : Aside0 (Kd.R k43 43 w56 w.heap.size (fun k_ => nb (.slice Ao51 t894.length co51) k_ ∧ nb v900 k_ ∧ nb (.slice Ao47 x5_1.length co47) k_) (.slice Ao8 t880.length co8) t880) := ⟨h2_⟩
                 have n3_ : Aside0 (Kd.R k43 43 w56 w.heap.size (fun k_ => nb (.slice Ao51 t894.length co51) k_ ∧ nb v900 k_ ∧ nb (.slice Ao8 t880.length co8) k_) (.slice Ao47 x5_1.length co47) x5_1) := ⟨h3_⟩
                 have n4_ : Aside0 (w56.heap[gb898]? = some (.cells #[.int .i64 t891, .string t892, .bool t893, .slice Ao51 t894.length co51] 28 (0, 0))) := ⟨h4_⟩
                 have n5_ : Aside0 (w56.heap[gb919]? = some (.cells #[.int .i64 0, .string (⟨#[]⟩ : ByteArray), .bool false, .slice none 0 0] 28 (0, 0))) := ⟨h5_⟩
                 have n6_ : Aside0 (w.heap.size ≤ gb919) := ⟨h6_⟩
                 have n7_ : Aside0 (w.heap.size ≤ gb919) := ⟨h7_⟩
                 have n8_ : Aside0 (gb898 ≠ gb919) := ⟨h8_⟩
                 have n9_ : Aside0 (gb919 ≠ gb898) := ⟨h9_⟩
                 have n10_ : Aside0 (Below w.heap.size w w56) := ⟨h10_⟩
                 clear HO_5
                 clear HO_15
                 clear HO896
                 clear BK898
                 clear HB
                 clear h0_ h1_ h2_ h3_ h4_ h5_ h6_ h7_ h8_ h9_ h10_
                 have HO896 := n0_
                 have HO901 := n1_
                 have HO_15 := n2_
                 have HO_5 := n3_
                 have BK898 := n4_
                 have BK919 := n5_
                 have GW919 := n6_
                 have GE919 := n7_
                 have NB898_919 := n8_
                 have NB919_898 := n9_
                 have HB := n10_
                 clear n0_ n1_ n2_ n3_ n4_ n5_ n6_ n7_ n8_ n9_ n10_
                 have hHeld := trivial
                 refine norm_ (a' := ?_) ?_ ?_
                 rotate_left
                 ·simp only [putAll, Act.put, List.setIfInBounds_toArray, List.set_cons_zero, List.set_cons_succ]
                  rfl
                 refine one_ (i := 2) (N := some 52) #[true, true, true, true, true, false, false, false, false, false, false, false, false, false, true, false, false] rfl rfl (one_of HT_.out (by kernel_rfl)) (by decide) (fun K hK => ?_)
                 refine Kd.R_lit_step (Kd.int .u16) _ 40 ?hg (N := 52) ?hd (xs := ([5, 6, 2] : List Int)) (inner := [.int .u16 5, .int .u16 6, .int .u16 2]) (ok := fun _ => True) (okp := fun _ => True) ?hr ?hp (fun _ hk => hk) trivial (Below.refl _ _) (Nat.le_refl _) (by simp) ?_; (case hd => rfl); (case hg => rfl); (case hr => first | (go_simp; done) | (go_simp; rfl)); (case hp => exact (Reps.one (show Kd.M (Kd.int .u16) _ _ _ 5 [.int .u16 5] from rfl) (Reps.one (show Kd.M (Kd.int .u16) _ _ _ 6 [.int .u16 6] from rfl) (Reps.one (show Kd.M (Kd.int .u16) _ _ _ 2 [.int .u16 2] from rfl) (Reps.none _ _)))))
                 intro v903 w57 ho58 hb hg_ hnew_
                 clear hg_ hnew_
                 (first | rw [← Ny902.out] at ho58 | (simp only [Int.reduceToNat] at ho58; rw [← Ny902.out] at ho58))
                 have n0_ := Aside0.mk (Kd.R_below HO_5.out hb)
                 have n1_ := Aside0.mk (Kd.R_below HO_15.out hb)
                 have n2_ := Aside0.mk (Kd.R_below HO896.out hb)
                 have n3_ := Aside0.mk (Kd.R_below HO901.out hb)
                 have n4_ := Aside0.mk (Kd.R_lower ho58 (below_size HB.out))
                 have n5_ := Aside0.mk (blk_below (g := gb898) (o := .cells #[.int .i64 t891, .string t892, .bool t893, .slice Ao51 t894.length co51] 28 (0, 0)) BK898.out hb)
                 have n6_ := Aside0.mk (blk_below (g := gb919) (o := .cells #[.int .i64 0, .string (⟨#[]⟩ : ByteArray), .bool false, .slice none 0 0] 28 (0, 0)) BK919.out hb)
                 have n7_ := Aside0.mk (below_step HB.out hb)
                 clear HO_5
                 clear HO_15
                 clear HO896
                 clear HO901
                 clear BK898
                 clear BK919
                 clear HB
                 have HO_5 := n0_
                 have HO_15 := n1_
                 have HO896 := n2_
                 have HO901 := n3_
                 have HO904 := n4_
                 have BK898 := n5_
                 have BK919 := n6_
                 have HB := n7_
                 clear n0_ n1_ n2_ n3_ n4_ n5_ n6_ n7_
                 clear hb ho58
                 obtain ⟨Ao59, co59, eo59⟩ := Kd.R_slice HO904.out
                 subst eo59
                 obtain ⟨ado59, fo59, _⟩ := Kd.at_int (Kd.R_reads' HO904.out).2.2 0 (by decide) (by rw [Ny902.out]; simp)
                 cases fo59
                 refine hK.out _ _ trivial (fun hHeld => ?_)
                 clear hK K
                 refine norm_ (a' := ?_) ?_ ?_
                 rotate_left
                 ·show Act.put _ (some 52) _ = _
                  simp only [Act.put, List.setIfInBounds_toArray, List.set_cons_zero, List.set_cons_succ, i64_w, i32_w]
                  rfl
                 refine pure_ (i := 5) (N := some 55) (v := ?_) (a' := ?_) #[true, true, true, true, true, true, false, false, false, false, false, false, false, false, true, false, false] rfl rfl (any_of HT_.out (by kernel_rfl)) (fun _ _ _ h => h) (Or.inl ⟨by rfl, ?_⟩) ?_ ?_
                 rotate_left
                 ·intro w'
                  go_simp
                  with_reducible rfl
                 rotate_left
                 ·simp only [Act.put, List.setIfInBounds_toArray, List.set_cons_zero, List.set_cons_succ, i64_w, i32_w]
                  rfl
                 exact norm_ (by simp only [putAll, Act.put, List.setIfInBounds_toArray, List.set_cons_zero, List.set_cons_succ]; first | done | rfl) (hJ1_2_14 (v900, .slice (some ado59) y902.length co59, ado59, gb919) _ ⟨HO896.out, HO901.out, HO904.out, HO_15.out, HO_5.out, ⟨_, rfl⟩, BK898.out, BK919.out, GW919.out, GE919.out, NB898_919.out, NB919_898.out, HB.out⟩)
               ·skip
                rintro ⟨v900, v903, adz_v903⟩ w58 ⟨h0_, h1_, h2_, h3_, h4_, h5_, h6_, h7_⟩
                have n0_ : Aside0 (Kd.R k43 43 w58 w.heap.size (fun k_ => nb v900 k_ ∧ nb (.slice Ao8 t880.length co8) k_ ∧ nb (.slice Ao47 x5_1.length co47) k_) (.slice Ao51 t894.length co51) t894) := ⟨h0_⟩
                have n1_ : Aside0 (Kd.R k43 43 w58 w.heap.size (fun k_ => nb (.slice Ao51 t894.length co51) k_ ∧ nb (.slice Ao8 t880.length co8) k_ ∧ nb (.slice Ao47 x5_1.length co47) k_) v900 y899) := ⟨h1_⟩
                have n2_ : Aside0 (Kd.R (Kd.int .u16) 40 w58 w.heap.size (fun _ => True) v903 y902) := ⟨h2_⟩
                have n3_ : Aside0 (Kd.R k43 43 w58 w.heap.size (fun k_ => nb (.slice Ao51 t894.length co51) k_ ∧ nb v900 k_ ∧ nb (.slice Ao47 x5_1.length co47) k_) (.slice Ao8 t880.length co8) t880) := ⟨h3_⟩
                have n4_ : Aside0 (Kd.R k43 43 w58 w.heap.size (fun k_ => nb (.slice Ao51 t894.length co51) k_ ∧ nb v900 k_ ∧ nb (.slice Ao8 t880.length co8) k_) (.slice Ao47 x5_1.length co47) x5_1) := ⟨h4_⟩
                have n5_ : Aside0 (∃ c_, (v903 : Value) = .slice (some adz_v903) y902.length c_) := ⟨h5_⟩
                have n6_ : Aside0 (w58.heap[gb898]? = some (.cells #[.int .i64 t891, .string t892, .bool t893, .slice Ao51 t894.length co51] 28 (0, 0))) := ⟨h6_⟩
                have n7_ : Aside0 (Below w.heap.size w w58) := ⟨h7_⟩
                clear HO_5
                clear HO_15
                clear HO896
                clear BK898
                clear HB
                clear h0_ h1_ h2_ h3_ h4_ h5_ h6_ h7_
                have HO896 := n0_
                have HO901 := n1_
                have HO904 := n2_
                have HO_15 := n3_
                have HO_5 := n4_
                have HA_HO904 := n5_
                have BK898 := n6_
                have HB := n7_
                clear n0_ n1_ n2_ n3_ n4_ n5_ n6_ n7_
                have hHeld := trivial
                obtain ⟨co59, eo59⟩ := HA_HO904.out
                clear HA_HO904
                subst eo59
                refine norm_ (a' := ?_) ?_ ?_
                rotate_left
                ·simp only [putAll, Act.put, List.setIfInBounds_toArray, List.set_cons_zero, List.set_cons_succ]
                 rfl
                refine two_ (i := 6) (j := 14) (Ni := some 56) (Nj := some 10) #[true, true, true, true, true, true, true, false, false, false, false, false, false, false, false, false, false] #[true, true, true, true, true, true, false, false, false, false, false, false, false, false, true, false, false] rfl rfl rfl rfl (two_of HT_.out (by kernel_rfl)) (by decide) (by decide) (fun K hK => ?_) (fun K hK => ?_)
                ·skip
                 (have p905 : 0 ≤ ((ji36) : Int) := of_decide_eq_true (by first | (with_reducible assumption) | assumption); have q905 : (ji36) < (y902.length : Int) := of_decide_eq_true (by first | (with_reducible assumption) | assumption); obtain ⟨ad905, e905, hx905_0⟩ := Kd.at_int (Kd.R_reads' HO904.out).2.2 (ji36) p905 q905; obtain rfl : adz_v903 = ad905 := (by injection e905))
                 refine value_ (w1 := ?_) (v := ?_) (by rfl) rfl ?_ ?_
                 rotate_left 2
                 ·go_simp
                  constructor
                  ·rfl
                  ·rfl
                 clear hx905_0
                 refine hK.out _ _ trivial (fun hHeld => ?_)
                 clear hK K
                 refine norm_ (a' := ?_) ?_ ?_
                 rotate_left
                 ·show Act.put _ (some 56) _ = _
                  simp only [Act.put, List.setIfInBounds_toArray, List.set_cons_zero, List.set_cons_succ, i64_w, i32_w]
                  rfl
                 refine pure_ (i := 7) (N := some 57) (v := ?_) (a' := ?_) #[true, true, true, true, true, true, true, true, false, false, false, false, false, false, false, false, false] rfl rfl (any_of HT_.out (by kernel_rfl)) (fun _ _ _ h => h) (Or.inl ⟨by rfl, ?_⟩) ?_ ?_
                 rotate_left
                 ·intro w'
                  go_simp
                  with_reducible rfl
                 rotate_left
                 ·simp only [Act.put, List.setIfInBounds_toArray, List.set_cons_zero, List.set_cons_succ, i64_w, i32_w]
                  rfl
                 exact norm_ (by simp only [putAll, Act.put, List.setIfInBounds_toArray, List.set_cons_zero, List.set_cons_succ]; first | done | rfl) (hJ1_2_6 (v900, .slice (some adz_v903) y902.length co59, adz_v903) _ ⟨HO896.out, HO901.out, HO904.out, HO_15.out, HO_5.out, ⟨_, rfl⟩, BK898.out, HB.out⟩)
                ·skip
                 refine box_step ?hg (N := 10) ?hd (cs := #[.int .i64 0, .string (⟨#[]⟩ : ByteArray), .bool false, .slice none 0 0]) (t := 28) ?hr ?_; (case hd => rfl); (case hg => rfl); (case hr => first | (go_simp; done) | (go_simp; rfl))
                 intro gb919 hg w60 hbox hb
                 have n0_ := Aside0.mk (Kd.R_below HO_5.out hb)
                 have n1_ := Aside0.mk (Kd.R_below HO_15.out hb)
                 have n2_ := Aside0.mk (Kd.R_below HO896.out hb)
                 have n3_ := Aside0.mk (Kd.R_below HO901.out hb)
                 have n4_ := Aside0.mk (Kd.R_below HO904.out hb)
                 have n5_ := Aside0.mk (blk_below (g := gb898) (o := .cells #[.int .i64 t891, .string t892, .bool t893, .slice Ao51 t894.length co51] 28 (0, 0)) BK898.out hb)
                 have n6_ := Aside0.mk (below_step HB.out hb)
                 have n7_ := Aside0.mk (hbox)
                 have n8_ := Aside0.mk ((by rw [hg]; exact (below_size HB.out) : w.heap.size ≤ gb919))
                 have n9_ := Aside0.mk ((by rw [hg]; exact (below_size HB.out) : w.heap.size ≤ gb919))
                 have n10_ := Aside0.mk ((by rw [hg]; exact Nat.ne_of_lt (blk_lt (g := gb898) (o := .cells #[.int .i64 t891, .string t892, .bool t893, .slice Ao51 t894.length co51] 28 (0, 0)) BK898.out) : gb898 ≠ gb919))
                 have n11_ := Aside0.mk ((by rw [hg]; exact Nat.ne_of_gt (blk_lt (g := gb898) (o := .cells #[.int .i64 t891, .string t892, .bool t893, .slice Ao51 t894.length co51] 28 (0, 0)) BK898.out) : gb919 ≠ gb898))
                 clear HO_5
                 clear HO_15
                 clear HO896
                 clear HO901
                 clear HO904
                 clear BK898
                 clear HB
                 have HO_5 := n0_
                 have HO_15 := n1_
                 have HO896 := n2_
                 have HO901 := n3_
                 have HO904 := n4_
                 have BK898 := n5_
                 have HB := n6_
                 have BK919 := n7_
                 have GW919 := n8_
                 have GE919 := n9_
                 have NB898_919 := n10_
                 have NB919_898 := n11_
                 clear n0_ n1_ n2_ n3_ n4_ n5_ n6_ n7_ n8_ n9_ n10_ n11_
                 clear hb hbox hg
                 refine hK.out _ _ trivial (fun hHeld => ?_)
                 clear hK K
                 refine norm_ (a' := ?_) ?_ ?_
                 rotate_left
                 ·show Act.put _ (some 10) _ = _
                  simp only [Act.put, List.setIfInBounds_toArray, List.set_cons_zero, List.set_cons_succ, i64_w, i32_w]
                  rfl
                 exact norm_ (by simp only [putAll, Act.put, List.setIfInBounds_toArray, List.set_cons_zero, List.set_cons_succ]; first | done | rfl) (hJ1_2_14 (v900, .slice (some adz_v903) y902.length co59, adz_v903, gb919) _ ⟨HO896.out, HO901.out, HO904.out, HO_15.out, HO_5.out, ⟨_, rfl⟩, BK898.out, BK919.out, GW919.out, GE919.out, NB898_919.out, NB919_898.out, HB.out⟩)
              ·skip
               rintro ⟨v903, adz_v903, gb919⟩ w58 ⟨h0_, h1_, h2_, h3_, h4_, h5_, h6_, h7_, h8_, h9_, h10_, h11_⟩
               have n0_ : Aside0 (Kd.R k43 43 w58 w.heap.size (fun k_ => nb (.slice Ao8 t880.length co8) k_ ∧ nb (.slice Ao47 x5_1.length co47) k_) (.slice Ao51 t894.length co51) t894) := ⟨h0_⟩
               have n1_ : Aside0 (Kd.R (Kd.int .u16) 40 w58 w.heap.size (fun _ => True) v903 y902) := ⟨h1_⟩
               have n2_ : Aside0 (Kd.R k43 43 w58 w.heap.size (fun k_ => nb (.slice Ao51 t894.length co51) k_ ∧ nb (.slice Ao47 x5_1.length co47) k_) (.slice Ao8 t880.length co8) t880) := ⟨h2_⟩
               have n3_ : Aside0 (Kd.R k43 43 w58 w.heap.size (fun k_ => nb (.slice Ao51 t894.length co51) k_ ∧ nb (.slice Ao8 t880.length co8) k_) (.slice Ao47 x5_1.length co47) x5_1) := ⟨h3_⟩
               have n4_ : Aside0 (∃ c_, (v903 : Value) = .slice (some adz_v903) y902.length c_) := ⟨h4_⟩
               have n5_ : Aside0 (w58.heap[gb898]? = some (.cells #[.int .i64 t891, .string t892, .bool t893, .slice Ao51 t894.length co51] 28 (0, 0))) := ⟨h5_⟩
               have n6_ : Aside0 (w58.heap[gb919]? = some (.cells #[.int .i64 0, .string (⟨#[]⟩ : ByteArray), .bool false, .slice none 0 0] 28 (0, 0))) := ⟨h6_⟩
               have n7_ : Aside0 (w.heap.size ≤ gb919) := ⟨h7_⟩
               have n8_ : Aside0 (w.heap.size ≤ gb919) := ⟨h8_⟩
               have n9_ : Aside0 (gb898 ≠ gb919) := ⟨h9_⟩
               have n10_ : Aside0 (gb919 ≠ gb898) := ⟨h10_⟩
               have n11_ : Aside0 (Below w.heap.size w w58) := ⟨h11_⟩
               clear HO_5
               clear HO_15
               clear HO896
               clear BK898
               clear HB
               clear h0_ h1_ h2_ h3_ h4_ h5_ h6_ h7_ h8_ h9_ h10_ h11_
               have HO896 := n0_
               have HO904 := n1_
               have HO_15 := n2_
               have HO_5 := n3_
               have HA_HO904 := n4_
               have BK898 := n5_
               have BK919 := n6_
               have GW919 := n7_
               have GE919 := n8_
               have NB898_919 := n9_
               have NB919_898 := n10_
               have HB := n11_
               clear n0_ n1_ n2_ n3_ n4_ n5_ n6_ n7_ n8_ n9_ n10_ n11_
               have hHeld := trivial
               obtain ⟨co59, eo59⟩ := HA_HO904.out
               clear HA_HO904
               subst eo59
               refine norm_ (a' := ?_) ?_ ?_
               rotate_left
               ·simp only [putAll, Act.put, List.setIfInBounds_toArray, List.set_cons_zero, List.set_cons_succ]
                rfl
               refine two_ (i := 1) (j := 8) (Ni := some 51) (Nj := some 58) #[true, true, true, true, true, true, true, true, false, false, false, false, false, false, true, false, false] #[true, false, true, true, true, true, true, true, true, false, false, false, false, false, true, false, false] rfl rfl rfl rfl (two_of HT_.out (by kernel_rfl)) (by decide) (by decide) (fun K hK => ?_) (fun K hK => ?_)
               ·skip
                refine Kd.R_append_rows_step k43 (w0 := w) w.heap.size rfl (.const (.slice none 0 0)) (.tmp 50) 26 43 (.agg #[(.string ⟨#[]⟩), (.int .u16 0), (.int .u32 0), (.string ⟨#[]⟩)]) 40 rfl Try.underlying26 info43 rfl (by decide) (by omega) (.slice none 0 0) ([] : List (S43)) x5_1 _ _ _ (fun k_ => nb (.slice Ao47 x5_1.length co47) k_ ∧ nb (.slice Ao8 t880.length co8) k_ ∧ nb (.slice Ao51 t894.length co51) k_) (fun _ => False) rfl rfl ?aO ?aR (fun _ _ h => h) (fun _ h => h.elim) ?aF ?aB ?aS ?aL ?_
                (case aR => repeat (first | exact (Kd.R_reads' HO_5.out).2.2 | (with_reducible refine Kd.C_alloc ?_ _) | (with_reducible refine Kd.C_drewN ?_ _) | (with_reducible refine Kd.C_drew ?_)))
                (case aB => exact HB.out)
                (case aF => exact (fun k_ hk => ⟨Kd.fresh' (Kd.R_lt HO_5.out) k_ hk, Kd.fresh' (Kd.R_lt HO_15.out) k_ hk, Kd.fresh' (Kd.R_lt HO896.out) k_ hk⟩))
                (case aO => exact ((Kd.R_nil _ _ _ _ (fun k_ => nb (.slice Ao47 x5_1.length co47) k_ ∧ nb (.slice Ao8 t880.length co8) k_ ∧ nb (.slice Ao51 t894.length co51) k_))))
                (case aS => exact (below_size HB.out))
                (case aL => have := LMc35.out; omega)
                intro v900 w60 ho hb hg hat
                rw [← Ny899.out] at ho
                have n0_ := Aside0.mk (Kd.R_after (Kd.R_apart_nil HO_5.out) hg hat)
                have n1_ := Aside0.mk (Kd.R_after (Kd.R_apart_nil HO_15.out) hg hat)
                have n2_ := Aside0.mk (Kd.R_after (Kd.R_apart_nil HO896.out) hg hat)
                have n3_ := Aside0.mk (blk_grown (g := gb898) (o := .cells #[.int .i64 t891, .string t892, .bool t893, .slice Ao51 t894.length co51] 28 (0, 0)) BK898.out hg (by simp [Value.ownBlock]))
                have n4_ := Aside0.mk (Kd.R_grown HO904.out hg (fun _ _ => by simp [Value.ownBlock]))
                have n5_ := Aside0.mk (blk_grown (g := gb919) (o := .cells #[.int .i64 0, .string (⟨#[]⟩ : ByteArray), .bool false, .slice none 0 0] 28 (0, 0)) BK919.out hg (by simp [Value.ownBlock]))
                have n6_ := Aside0.mk (hb)
                have n7_ := Aside0.mk (ho)
                clear HO_5
                clear HO_15
                clear HO896
                clear BK898
                clear HO904
                clear BK919
                clear HB
                have HO_5 := n0_
                have HO_15 := n1_
                have HO896 := n2_
                have BK898 := n3_
                have HO904 := n4_
                have BK919 := n5_
                have HB := n6_
                have HO901 := n7_
                clear n0_ n1_ n2_ n3_ n4_ n5_ n6_ n7_
                clear ho hb hg hat
                refine hK.out _ _ trivial (fun hHeld => ?_)
                clear hK K
                refine norm_ (a' := ?_) ?_ ?_
                rotate_left
                ·show Act.put _ (some 51) _ = _
                 simp only [Act.put, List.setIfInBounds_toArray, List.set_cons_zero, List.set_cons_succ, i64_w, i32_w]
                 rfl
                exact norm_ (by simp only [putAll, Act.put, List.setIfInBounds_toArray, List.set_cons_zero, List.set_cons_succ]; first | done | rfl) (hJ1_2_6_14 (v900, .slice (some adz_v903) y902.length co59, adz_v903, gb919) _ ⟨(Kd.R_mono HO896.out (fun _ hk => ⟨hk.2, ⟨hk.1.1, hk.1.2⟩⟩)), (Kd.R_mono HO901.out (fun _ hk => ⟨hk.2.2, ⟨hk.2.1, hk.1⟩⟩)), HO904.out, (Kd.R_mono HO_15.out (fun _ hk => ⟨hk.1.1, ⟨hk.2, hk.1.2⟩⟩)), (Kd.R_mono HO_5.out (fun _ hk => ⟨hk.1.1, ⟨hk.2, hk.1.2⟩⟩)), ⟨_, rfl⟩, BK898.out, BK919.out, GW919.out, GE919.out, NB898_919.out, NB919_898.out, HB.out⟩)
               ·skip
                refine Kd.R_lit_step k43 _ 43 ?hg (N := 58) ?hd (xs := ([(⟨(⟨#[]⟩ : ByteArray), rd y902 (ji36), 0, (⟨#[]⟩ : ByteArray)⟩ : S43)] : List (S43))) (inner := [.string (⟨#[]⟩ : ByteArray), .int .u16 (rd y902 (ji36)), .int .u32 0, .string (⟨#[]⟩ : ByteArray)]) (ok := fun _ => True) (okp := fun _ => True) ?hr ?hp (fun _ hk => hk) trivial (Below.refl _ _) (Nat.le_refl _) (by simp) ?_; (case hd => rfl); (case hg => rfl); (case hr => first | (go_simp; done) | (go_simp; rfl)); (case hp => exact (Reps.c4 (show Kd.M k43 _ _ _ (⟨(⟨#[]⟩ : ByteArray), rd y902 (ji36), 0, (⟨#[]⟩ : ByteArray)⟩ : S43) [.string (⟨#[]⟩ : ByteArray), .int .u16 (rd y902 (ji36)), .int .u32 0, .string (⟨#[]⟩ : ByteArray)] from (k43_mkM _ _ _ (⟨(⟨#[]⟩ : ByteArray), rd y902 (ji36), 0, (⟨#[]⟩ : ByteArray)⟩ : S43) )) (Reps.none _ _)))
                intro v907 w60 ho61 hb hg_ hnew_
                clear hg_ hnew_
                (first | rw [← Ny906.out] at ho61 | (simp only [Int.reduceToNat] at ho61; rw [← Ny906.out] at ho61))
                have n0_ := Aside0.mk (Kd.R_elder' HO_5.out (Kd.R_base ho61) hb)
                have n1_ := Aside0.mk (Kd.R_elder' HO_15.out (Kd.R_base ho61) hb)
                have n2_ := Aside0.mk (Kd.R_elder' HO896.out (Kd.R_base ho61) hb)
                have n3_ := Aside0.mk (Kd.R_below HO904.out hb)
                have n4_ := Aside0.mk (Kd.R_lower (Kd.R_new' (Kd.R_new' (Kd.R_new' ho61 (Kd.R_lt HO_5.out)) (Kd.R_lt HO_15.out)) (Kd.R_lt HO896.out)) (below_size HB.out))
                have n5_ := Aside0.mk (blk_below (g := gb898) (o := .cells #[.int .i64 t891, .string t892, .bool t893, .slice Ao51 t894.length co51] 28 (0, 0)) BK898.out hb)
                have n6_ := Aside0.mk (blk_below (g := gb919) (o := .cells #[.int .i64 0, .string (⟨#[]⟩ : ByteArray), .bool false, .slice none 0 0] 28 (0, 0)) BK919.out hb)
                have n7_ := Aside0.mk (below_step HB.out hb)
                clear HO_5
                clear HO_15
                clear HO896
                clear HO904
                clear BK898
                clear BK919
                clear HB
                have HO_5 := n0_
                have HO_15 := n1_
                have HO896 := n2_
                have HO904 := n3_
                have HO908 := n4_
                have BK898 := n5_
                have BK919 := n6_
                have HB := n7_
                clear n0_ n1_ n2_ n3_ n4_ n5_ n6_ n7_
                clear hb ho61
                refine hK.out _ _ trivial (fun hHeld => ?_)
                clear hK K
                refine norm_ (a' := ?_) ?_ ?_
                rotate_left
                ·show Act.put _ (some 58) _ = _
                 simp only [Act.put, List.setIfInBounds_toArray, List.set_cons_zero, List.set_cons_succ, i64_w, i32_w]
                 rfl
                exact norm_ (by simp only [putAll, Act.put, List.setIfInBounds_toArray, List.set_cons_zero, List.set_cons_succ]; first | done | rfl) (hJ2_6_8_14 (.slice (some adz_v903) y902.length co59, adz_v903, v907, gb919) _ ⟨(Kd.R_mono HO896.out (fun _ hk => ⟨hk.2, ⟨hk.1.1, hk.1.2⟩⟩)), HO904.out, (Kd.R_mono HO908.out (fun _ hk => ⟨hk.2, ⟨hk.1.2, hk.1.1.2⟩⟩)), (Kd.R_mono HO_15.out (fun _ hk => ⟨hk.1.1, ⟨hk.2, hk.1.2⟩⟩)), (Kd.R_mono HO_5.out (fun _ hk => ⟨hk.1.1, ⟨hk.2, hk.1.2⟩⟩)), ⟨_, rfl⟩, BK898.out, BK919.out, GW919.out, GE919.out, NB898_919.out, NB919_898.out, HB.out⟩)
             ·skip
              rintro ⟨v903, adz_v903, v907⟩ w59 ⟨h0_, h1_, h2_, h3_, h4_, h5_, h6_, h7_⟩
              have n0_ : Aside0 (Kd.R k43 43 w59 w.heap.size (fun k_ => nb v907 k_ ∧ nb (.slice Ao8 t880.length co8) k_ ∧ nb (.slice Ao47 x5_1.length co47) k_) (.slice Ao51 t894.length co51) t894) := ⟨h0_⟩
              have n1_ : Aside0 (Kd.R (Kd.int .u16) 40 w59 w.heap.size (fun _ => True) v903 y902) := ⟨h1_⟩
              have n2_ : Aside0 (Kd.R k43 43 w59 w.heap.size (fun k_ => nb (.slice Ao51 t894.length co51) k_ ∧ nb (.slice Ao8 t880.length co8) k_ ∧ nb (.slice Ao47 x5_1.length co47) k_) v907 y906) := ⟨h2_⟩
              have n3_ : Aside0 (Kd.R k43 43 w59 w.heap.size (fun k_ => nb (.slice Ao51 t894.length co51) k_ ∧ nb v907 k_ ∧ nb (.slice Ao47 x5_1.length co47) k_) (.slice Ao8 t880.length co8) t880) := ⟨h3_⟩
              have n4_ : Aside0 (Kd.R k43 43 w59 w.heap.size (fun k_ => nb (.slice Ao51 t894.length co51) k_ ∧ nb v907 k_ ∧ nb (.slice Ao8 t880.length co8) k_) (.slice Ao47 x5_1.length co47) x5_1) := ⟨h4_⟩
              have n5_ : Aside0 (∃ c_, (v903 : Value) = .slice (some adz_v903) y902.length c_) := ⟨h5_⟩
              have n6_ : Aside0 (w59.heap[gb898]? = some (.cells #[.int .i64 t891, .string t892, .bool t893, .slice Ao51 t894.length co51] 28 (0, 0))) := ⟨h6_⟩
              have n7_ : Aside0 (Below w.heap.size w w59) := ⟨h7_⟩
              clear HO_5
              clear HO_15
              clear HO896
              clear BK898
              clear HB
              clear h0_ h1_ h2_ h3_ h4_ h5_ h6_ h7_
              have HO896 := n0_
              have HO904 := n1_
              have HO908 := n2_
              have HO_15 := n3_
              have HO_5 := n4_
              have HA_HO904 := n5_
              have BK898 := n6_
              have HB := n7_
              clear n0_ n1_ n2_ n3_ n4_ n5_ n6_ n7_
              have hHeld := trivial
              obtain ⟨co60, eo60⟩ := HA_HO904.out
              clear HA_HO904
              subst eo60
              refine norm_ (a' := ?_) ?_ ?_
              rotate_left
              ·simp only [putAll, Act.put, List.setIfInBounds_toArray, List.set_cons_zero, List.set_cons_succ]
               rfl
              refine two_ (i := 1) (j := 14) (Ni := some 51) (Nj := some 10) #[true, true, true, true, true, true, true, true, true, false, false, false, false, false, false, false, false] #[true, false, true, true, true, true, true, true, true, false, false, false, false, false, true, false, false] rfl rfl rfl rfl (two_of HT_.out (by kernel_rfl)) (by decide) (by decide) (fun K hK => ?_) (fun K hK => ?_)
              ·skip
               refine Kd.R_append_rows_step k43 (w0 := w) w.heap.size rfl (.const (.slice none 0 0)) (.tmp 50) 26 43 (.agg #[(.string ⟨#[]⟩), (.int .u16 0), (.int .u32 0), (.string ⟨#[]⟩)]) 40 rfl Try.underlying26 info43 rfl (by decide) (by omega) (.slice none 0 0) ([] : List (S43)) x5_1 _ _ _ (fun k_ => nb (.slice Ao47 x5_1.length co47) k_ ∧ nb (.slice Ao8 t880.length co8) k_ ∧ nb (.slice Ao51 t894.length co51) k_ ∧ nb v907 k_) (fun _ => False) rfl rfl ?aO ?aR (fun _ _ h => h) (fun _ h => h.elim) ?aF ?aB ?aS ?aL ?_
               (case aR => repeat (first | exact (Kd.R_reads' HO_5.out).2.2 | (with_reducible refine Kd.C_alloc ?_ _) | (with_reducible refine Kd.C_drewN ?_ _) | (with_reducible refine Kd.C_drew ?_)))
               (case aB => exact HB.out)
               (case aF => exact (fun k_ hk => ⟨Kd.fresh' (Kd.R_lt HO_5.out) k_ hk, Kd.fresh' (Kd.R_lt HO_15.out) k_ hk, Kd.fresh' (Kd.R_lt HO896.out) k_ hk, Kd.fresh' (Kd.R_lt HO908.out) k_ hk⟩))
               (case aO => exact ((Kd.R_nil _ _ _ _ (fun k_ => nb (.slice Ao47 x5_1.length co47) k_ ∧ nb (.slice Ao8 t880.length co8) k_ ∧ nb (.slice Ao51 t894.length co51) k_ ∧ nb v907 k_))))
               (case aS => exact (below_size HB.out))
               (case aL => have := LMc35.out; omega)
               intro v900 w61 ho hb hg hat
               rw [← Ny899.out] at ho
               have n0_ := Aside0.mk (Kd.R_after (Kd.R_apart_nil HO_5.out) hg hat)
               have n1_ := Aside0.mk (Kd.R_after (Kd.R_apart_nil HO_15.out) hg hat)
               have n2_ := Aside0.mk (Kd.R_after (Kd.R_apart_nil HO896.out) hg hat)
               have n3_ := Aside0.mk (blk_grown (g := gb898) (o := .cells #[.int .i64 t891, .string t892, .bool t893, .slice Ao51 t894.length co51] 28 (0, 0)) BK898.out hg (by simp [Value.ownBlock]))
               have n4_ := Aside0.mk (Kd.R_grown HO904.out hg (fun _ _ => by simp [Value.ownBlock]))
               have n5_ := Aside0.mk (Kd.R_after (Kd.R_apart_nil HO908.out) hg hat)
               have n6_ := Aside0.mk (hb)
               have n7_ := Aside0.mk (ho)
               clear HO_5
               clear HO_15
               clear HO896
               clear BK898
               clear HO904
               clear HO908
               clear HB
               have HO_5 := n0_
               have HO_15 := n1_
               have HO896 := n2_
               have BK898 := n3_
               have HO904 := n4_
               have HO908 := n5_
               have HB := n6_
               have HO901 := n7_
               clear n0_ n1_ n2_ n3_ n4_ n5_ n6_ n7_
               clear ho hb hg hat
               refine hK.out _ _ trivial (fun hHeld => ?_)
               clear hK K
               refine norm_ (a' := ?_) ?_ ?_
               rotate_left
               ·show Act.put _ (some 51) _ = _
                simp only [Act.put, List.setIfInBounds_toArray, List.set_cons_zero, List.set_cons_succ, i64_w, i32_w]
                rfl
               exact norm_ (by simp only [putAll, Act.put, List.setIfInBounds_toArray, List.set_cons_zero, List.set_cons_succ]; first | done | rfl) (hJ1_2_6_8 (v900, .slice (some adz_v903) y902.length co60, adz_v903, v907) _ ⟨(Kd.R_mono HO896.out (fun _ hk => ⟨hk.2, ⟨hk.1.1, ⟨hk.1.2.1, hk.1.2.2⟩⟩⟩)), (Kd.R_mono HO901.out (fun _ hk => ⟨hk.2.2.1, ⟨hk.2.2.2, ⟨hk.2.1, hk.1⟩⟩⟩)), HO904.out, (Kd.R_mono HO908.out (fun _ hk => ⟨hk.1.1, ⟨hk.2, ⟨hk.1.2.1, hk.1.2.2⟩⟩⟩)), (Kd.R_mono HO_15.out (fun _ hk => ⟨hk.1.1, ⟨hk.2, ⟨hk.1.2.1, hk.1.2.2⟩⟩⟩)), (Kd.R_mono HO_5.out (fun _ hk => ⟨hk.1.1, ⟨hk.2, ⟨hk.1.2.1, hk.1.2.2⟩⟩⟩)), ⟨_, rfl⟩, BK898.out, HB.out⟩)
              ·skip
               refine box_step ?hg (N := 10) ?hd (cs := #[.int .i64 0, .string (⟨#[]⟩ : ByteArray), .bool false, .slice none 0 0]) (t := 28) ?hr ?_; (case hd => rfl); (case hg => rfl); (case hr => first | (go_simp; done) | (go_simp; rfl))
               intro gb919 hg w61 hbox hb
               have n0_ := Aside0.mk (Kd.R_below HO_5.out hb)
               have n1_ := Aside0.mk (Kd.R_below HO_15.out hb)
               have n2_ := Aside0.mk (Kd.R_below HO896.out hb)
               have n3_ := Aside0.mk (Kd.R_below HO904.out hb)
               have n4_ := Aside0.mk (Kd.R_below HO908.out hb)
               have n5_ := Aside0.mk (blk_below (g := gb898) (o := .cells #[.int .i64 t891, .string t892, .bool t893, .slice Ao51 t894.length co51] 28 (0, 0)) BK898.out hb)
               have n6_ := Aside0.mk (below_step HB.out hb)
               have n7_ := Aside0.mk (hbox)
               have n8_ := Aside0.mk ((by rw [hg]; exact (below_size HB.out) : w.heap.size ≤ gb919))
               have n9_ := Aside0.mk ((by rw [hg]; exact (below_size HB.out) : w.heap.size ≤ gb919))
               have n10_ := Aside0.mk ((by rw [hg]; exact Nat.ne_of_lt (blk_lt (g := gb898) (o := .cells #[.int .i64 t891, .string t892, .bool t893, .slice Ao51 t894.length co51] 28 (0, 0)) BK898.out) : gb898 ≠ gb919))
               have n11_ := Aside0.mk ((by rw [hg]; exact Nat.ne_of_gt (blk_lt (g := gb898) (o := .cells #[.int .i64 t891, .string t892, .bool t893, .slice Ao51 t894.length co51] 28 (0, 0)) BK898.out) : gb919 ≠ gb898))
               clear HO_5
               clear HO_15
               clear HO896
               clear HO904
               clear HO908
               clear BK898
               clear HB
               have HO_5 := n0_
               have HO_15 := n1_
               have HO896 := n2_
               have HO904 := n3_
               have HO908 := n4_
               have BK898 := n5_
               have HB := n6_
               have BK919 := n7_
               have GW919 := n8_
               have GE919 := n9_
               have NB898_919 := n10_
               have NB919_898 := n11_
               clear n0_ n1_ n2_ n3_ n4_ n5_ n6_ n7_ n8_ n9_ n10_ n11_
               clear hb hbox hg
               refine hK.out _ _ trivial (fun hHeld => ?_)
               clear hK K
               refine norm_ (a' := ?_) ?_ ?_
               rotate_left
               ·show Act.put _ (some 10) _ = _
                simp only [Act.put, List.setIfInBounds_toArray, List.set_cons_zero, List.set_cons_succ, i64_w, i32_w]
                rfl
               exact norm_ (by simp only [putAll, Act.put, List.setIfInBounds_toArray, List.set_cons_zero, List.set_cons_succ]; first | done | rfl) (hJ2_6_8_14 (.slice (some adz_v903) y902.length co60, adz_v903, v907, gb919) _ ⟨HO896.out, HO904.out, HO908.out, HO_15.out, HO_5.out, ⟨_, rfl⟩, BK898.out, BK919.out, GW919.out, GE919.out, NB898_919.out, NB919_898.out, HB.out⟩)
            ·skip
             rintro ⟨v900, v903, adz_v903, gb919⟩ w59 ⟨h0_, h1_, h2_, h3_, h4_, h5_, h6_, h7_, h8_, h9_, h10_, h11_, h12_⟩
             have n0_ : Aside0 (Kd.R k43 43 w59 w.heap.size (fun k_ => nb v900 k_ ∧ nb (.slice Ao8 t880.length co8) k_ ∧ nb (.slice Ao47 x5_1.length co47) k_) (.slice Ao51 t894.length co51) t894) := ⟨h0_⟩
             have n1_ : Aside0 (Kd.R k43 43 w59 w.heap.size (fun k_ => nb (.slice Ao51 t894.length co51) k_ ∧ nb (.slice Ao8 t880.length co8) k_ ∧ nb (.slice Ao47 x5_1.length co47) k_) v900 y899) := ⟨h1_⟩
             have n2_ : Aside0 (Kd.R (Kd.int .u16) 40 w59 w.heap.size (fun _ => True) v903 y902) := ⟨h2_⟩
             have n3_ : Aside0 (Kd.R k43 43 w59 w.heap.size (fun k_ => nb (.slice Ao51 t894.length co51) k_ ∧ nb v900 k_ ∧ nb (.slice Ao47 x5_1.length co47) k_) (.slice Ao8 t880.length co8) t880) := ⟨h3_⟩
             have n4_ : Aside0 (Kd.R k43 43 w59 w.heap.size (fun k_ => nb (.slice Ao51 t894.length co51) k_ ∧ nb v900 k_ ∧ nb (.slice Ao8 t880.length co8) k_) (.slice Ao47 x5_1.length co47) x5_1) := ⟨h4_⟩
             have n5_ : Aside0 (∃ c_, (v903 : Value) = .slice (some adz_v903) y902.length c_) := ⟨h5_⟩
             have n6_ : Aside0 (w59.heap[gb898]? = some (.cells #[.int .i64 t891, .string t892, .bool t893, .slice Ao51 t894.length co51] 28 (0, 0))) := ⟨h6_⟩
             have n7_ : Aside0 (w59.heap[gb919]? = some (.cells #[.int .i64 0, .string (⟨#[]⟩ : ByteArray), .bool false, .slice none 0 0] 28 (0, 0))) := ⟨h7_⟩
             have n8_ : Aside0 (w.heap.size ≤ gb919) := ⟨h8_⟩
             have n9_ : Aside0 (w.heap.size ≤ gb919) := ⟨h9_⟩
             have n10_ : Aside0 (gb898 ≠ gb919) := ⟨h10_⟩
             have n11_ : Aside0 (gb919 ≠ gb898) := ⟨h11_⟩
             have n12_ : Aside0 (Below w.heap.size w w59) := ⟨h12_⟩
             clear HO_5
             clear HO_15
             clear HO896
             clear BK898
             clear HB
             clear h0_ h1_ h2_ h3_ h4_ h5_ h6_ h7_ h8_ h9_ h10_ h11_ h12_
             have HO896 := n0_
             have HO901 := n1_
             have HO904 := n2_
             have HO_15 := n3_
             have HO_5 := n4_
             have HA_HO904 := n5_
             have BK898 := n6_
             have BK919 := n7_
             have GW919 := n8_
             have GE919 := n9_
             have NB898_919 := n10_
             have NB919_898 := n11_
             have HB := n12_
             clear n0_ n1_ n2_ n3_ n4_ n5_ n6_ n7_ n8_ n9_ n10_ n11_ n12_
             have hHeld := trivial
             obtain ⟨co60, eo60⟩ := HA_HO904.out
             clear HA_HO904
             subst eo60
             refine norm_ (a' := ?_) ?_ ?_
             rotate_left
             ·simp only [putAll, Act.put, List.setIfInBounds_toArray, List.set_cons_zero, List.set_cons_succ]
              rfl
             refine one_ (i := 6) (N := some 56) #[true, true, true, true, true, true, true, false, false, false, false, false, false, false, true, false, false] rfl rfl (one_of HT_.out (by kernel_rfl)) (by decide) (fun K hK => ?_)
             (have p905 : 0 ≤ ((ji36) : Int) := of_decide_eq_true (by first | (with_reducible assumption) | assumption); have q905 : (ji36) < (y902.length : Int) := of_decide_eq_true (by first | (with_reducible assumption) | assumption); obtain ⟨ad905, e905, hx905_0⟩ := Kd.at_int (Kd.R_reads' HO904.out).2.2 (ji36) p905 q905; obtain rfl : adz_v903 = ad905 := (by injection e905))
             refine value_ (w1 := ?_) (v := ?_) (by rfl) rfl ?_ ?_
             rotate_left 2
             ·go_simp
              constructor
              ·rfl
              ·rfl
             clear hx905_0
             refine hK.out _ _ trivial (fun hHeld => ?_)
             clear hK K
             refine norm_ (a' := ?_) ?_ ?_
             rotate_left
             ·show Act.put _ (some 56) _ = _
              simp only [Act.put, List.setIfInBounds_toArray, List.set_cons_zero, List.set_cons_succ, i64_w, i32_w]
              rfl
             refine pure_ (i := 7) (N := some 57) (v := ?_) (a' := ?_) #[true, true, true, true, true, true, true, true, false, false, false, false, false, false, true, false, false] rfl rfl (any_of HT_.out (by kernel_rfl)) (fun _ _ _ h => h) (Or.inl ⟨by rfl, ?_⟩) ?_ ?_
             rotate_left
             ·intro w'
              go_simp
              with_reducible rfl
             rotate_left
             ·simp only [Act.put, List.setIfInBounds_toArray, List.set_cons_zero, List.set_cons_succ, i64_w, i32_w]
              rfl
             exact norm_ (by simp only [putAll, Act.put, List.setIfInBounds_toArray, List.set_cons_zero, List.set_cons_succ]; first | done | rfl) (hJ1_2_6_14 (v900, .slice (some adz_v903) y902.length co60, adz_v903, gb919) _ ⟨HO896.out, HO901.out, HO904.out, HO_15.out, HO_5.out, ⟨_, rfl⟩, BK898.out, BK919.out, GW919.out, GE919.out, NB898_919.out, NB919_898.out, HB.out⟩)
           ·skip
            rintro ⟨v900, v903, adz_v903⟩ w58 ⟨h0_, h1_, h2_, h3_, h4_, h5_, h6_, h7_⟩
            have n0_ : Aside0 (Kd.R k43 43 w58 w.heap.size (fun k_ => nb v900 k_ ∧ nb (.slice Ao8 t880.length co8) k_ ∧ nb (.slice Ao47 x5_1.length co47) k_) (.slice Ao51 t894.length co51) t894) := ⟨h0_⟩
            have n1_ : Aside0 (Kd.R k43 43 w58 w.heap.size (fun k_ => nb (.slice Ao51 t894.length co51) k_ ∧ nb (.slice Ao8 t880.length co8) k_ ∧ nb (.slice Ao47 x5_1.length co47) k_) v900 y899) := ⟨h1_⟩
            have n2_ : Aside0 (Kd.R (Kd.int .u16) 40 w58 w.heap.size (fun _ => True) v903 y902) := ⟨h2_⟩
            have n3_ : Aside0 (Kd.R k43 43 w58 w.heap.size (fun k_ => nb (.slice Ao51 t894.length co51) k_ ∧ nb v900 k_ ∧ nb (.slice Ao47 x5_1.length co47) k_) (.slice Ao8 t880.length co8) t880) := ⟨h3_⟩
            have n4_ : Aside0 (Kd.R k43 43 w58 w.heap.size (fun k_ => nb (.slice Ao51 t894.length co51) k_ ∧ nb v900 k_ ∧ nb (.slice Ao8 t880.length co8) k_) (.slice Ao47 x5_1.length co47) x5_1) := ⟨h4_⟩
            have n5_ : Aside0 (∃ c_, (v903 : Value) = .slice (some adz_v903) y902.length c_) := ⟨h5_⟩
            have n6_ : Aside0 (w58.heap[gb898]? = some (.cells #[.int .i64 t891, .string t892, .bool t893, .slice Ao51 t894.length co51] 28 (0, 0))) := ⟨h6_⟩
            have n7_ : Aside0 (Below w.heap.size w w58) := ⟨h7_⟩
            clear HO_5
            clear HO_15
            clear HO896
            clear BK898
            clear HB
            clear h0_ h1_ h2_ h3_ h4_ h5_ h6_ h7_
            have HO896 := n0_
            have HO901 := n1_
            have HO904 := n2_
            have HO_15 := n3_
            have HO_5 := n4_
            have HA_HO904 := n5_
            have BK898 := n6_
            have HB := n7_
            clear n0_ n1_ n2_ n3_ n4_ n5_ n6_ n7_
            have hHeld := trivial
            obtain ⟨co59, eo59⟩ := HA_HO904.out
            clear HA_HO904
            subst eo59
            refine norm_ (a' := ?_) ?_ ?_
            rotate_left
            ·simp only [putAll, Act.put, List.setIfInBounds_toArray, List.set_cons_zero, List.set_cons_succ]
             rfl
            refine two_ (i := 8) (j := 14) (Ni := some 58) (Nj := some 10) #[true, true, true, true, true, true, true, true, true, false, false, false, false, false, false, false, false] #[true, true, true, true, true, true, true, true, false, false, false, false, false, false, true, false, false] rfl rfl rfl rfl (two_of HT_.out (by kernel_rfl)) (by decide) (by decide) (fun K hK => ?_) (fun K hK => ?_)
            ·skip
             refine Kd.R_lit_step k43 _ 43 ?hg (N := 58) ?hd (xs := ([(⟨(⟨#[]⟩ : ByteArray), rd y902 (ji36), 0, (⟨#[]⟩ : ByteArray)⟩ : S43)] : List (S43))) (inner := [.string (⟨#[]⟩ : ByteArray), .int .u16 (rd y902 (ji36)), .int .u32 0, .string (⟨#[]⟩ : ByteArray)]) (ok := fun _ => True) (okp := fun _ => True) ?hr ?hp (fun _ hk => hk) trivial (Below.refl _ _) (Nat.le_refl _) (by simp) ?_; (case hd => rfl); (case hg => rfl); (case hr => first | (go_simp; done) | (go_simp; rfl)); (case hp => exact (Reps.c4 (show Kd.M k43 _ _ _ (⟨(⟨#[]⟩ : ByteArray), rd y902 (ji36), 0, (⟨#[]⟩ : ByteArray)⟩ : S43) [.string (⟨#[]⟩ : ByteArray), .int .u16 (rd y902 (ji36)), .int .u32 0, .string (⟨#[]⟩ : ByteArray)] from (k43_mkM _ _ _ (⟨(⟨#[]⟩ : ByteArray), rd y902 (ji36), 0, (⟨#[]⟩ : ByteArray)⟩ : S43) )) (Reps.none _ _)))
             intro v907 w60 ho61 hb hg_ hnew_
             clear hg_ hnew_
             (first | rw [← Ny906.out] at ho61 | (simp only [Int.reduceToNat] at ho61; rw [← Ny906.out] at ho61))
             have n0_ := Aside0.mk (Kd.R_elder' HO_5.out (Kd.R_base ho61) hb)
             have n1_ := Aside0.mk (Kd.R_elder' HO_15.out (Kd.R_base ho61) hb)
             have n2_ := Aside0.mk (Kd.R_elder' HO896.out (Kd.R_base ho61) hb)
             have n3_ := Aside0.mk (Kd.R_elder' HO901.out (Kd.R_base ho61) hb)
             have n4_ := Aside0.mk (Kd.R_below HO904.out hb)
             have n5_ := Aside0.mk (Kd.R_lower (Kd.R_new' (Kd.R_new' (Kd.R_new' (Kd.R_new' ho61 (Kd.R_lt HO_5.out)) (Kd.R_lt HO_15.out)) (Kd.R_lt HO896.out)) (Kd.R_lt HO901.out)) (below_size HB.out))
             have n6_ := Aside0.mk (blk_below (g := gb898) (o := .cells #[.int .i64 t891, .string t892, .bool t893, .slice Ao51 t894.length co51] 28 (0, 0)) BK898.out hb)
             have n7_ := Aside0.mk (below_step HB.out hb)
             clear HO_5
             clear HO_15
             clear HO896
             clear HO901
             clear HO904
             clear BK898
             clear HB
             have HO_5 := n0_
             have HO_15 := n1_
             have HO896 := n2_
             have HO901 := n3_
             have HO904 := n4_
             have HO908 := n5_
             have BK898 := n6_
             have HB := n7_
             clear n0_ n1_ n2_ n3_ n4_ n5_ n6_ n7_
             clear hb ho61
             refine hK.out _ _ trivial (fun hHeld => ?_)
             clear hK K
             refine norm_ (a' := ?_) ?_ ?_
             rotate_left
             ·show Act.put _ (some 58) _ = _
              simp only [Act.put, List.setIfInBounds_toArray, List.set_cons_zero, List.set_cons_succ, i64_w, i32_w]
              rfl
             exact norm_ (by simp only [putAll, Act.put, List.setIfInBounds_toArray, List.set_cons_zero, List.set_cons_succ]; first | done | rfl) (hJ1_2_6_8 (v900, .slice (some adz_v903) y902.length co59, adz_v903, v907) _ ⟨(Kd.R_mono HO896.out (fun _ hk => ⟨hk.1.1, ⟨hk.2, ⟨hk.1.2.1, hk.1.2.2⟩⟩⟩)), (Kd.R_mono HO901.out (fun _ hk => ⟨hk.1.1, ⟨hk.2, ⟨hk.1.2.1, hk.1.2.2⟩⟩⟩)), HO904.out, (Kd.R_mono HO908.out (fun _ hk => ⟨hk.1.2, ⟨hk.2, ⟨hk.1.1.2, hk.1.1.1.2⟩⟩⟩)), (Kd.R_mono HO_15.out (fun _ hk => ⟨hk.1.1, ⟨hk.1.2.1, ⟨hk.2, hk.1.2.2⟩⟩⟩)), (Kd.R_mono HO_5.out (fun _ hk => ⟨hk.1.1, ⟨hk.1.2.1, ⟨hk.2, hk.1.2.2⟩⟩⟩)), ⟨_, rfl⟩, BK898.out, HB.out⟩)
            ·skip
             refine box_step ?hg (N := 10) ?hd (cs := #[.int .i64 0, .string (⟨#[]⟩ : ByteArray), .bool false, .slice none 0 0]) (t := 28) ?hr ?_; (case hd => rfl); (case hg => rfl); (case hr => first | (go_simp; done) | (go_simp; rfl))
             intro gb919 hg w60 hbox hb
             have n0_ := Aside0.mk (Kd.R_below HO_5.out hb)
             have n1_ := Aside0.mk (Kd.R_below HO_15.out hb)
             have n2_ := Aside0.mk (Kd.R_below HO896.out hb)
             have n3_ := Aside0.mk (Kd.R_below HO901.out hb)
             have n4_ := Aside0.mk (Kd.R_below HO904.out hb)
             have n5_ := Aside0.mk (blk_below (g := gb898) (o := .cells #[.int .i64 t891, .string t892, .bool t893, .slice Ao51 t894.length co51] 28 (0, 0)) BK898.out hb)
             have n6_ := Aside0.mk (below_step HB.out hb)
             have n7_ := Aside0.mk (hbox)
             have n8_ := Aside0.mk ((by rw [hg]; exact (below_size HB.out) : w.heap.size ≤ gb919))
             have n9_ := Aside0.mk ((by rw [hg]; exact (below_size HB.out) : w.heap.size ≤ gb919))
             have n10_ := Aside0.mk ((by rw [hg]; exact Nat.ne_of_lt (blk_lt (g := gb898) (o := .cells #[.int .i64 t891, .string t892, .bool t893, .slice Ao51 t894.length co51] 28 (0, 0)) BK898.out) : gb898 ≠ gb919))
             have n11_ := Aside0.mk ((by rw [hg]; exact Nat.ne_of_gt (blk_lt (g := gb898) (o := .cells #[.int .i64 t891, .string t892, .bool t893, .slice Ao51 t894.length co51] 28 (0, 0)) BK898.out) : gb919 ≠ gb898))
             clear HO_5
             clear HO_15
             clear HO896
             clear HO901
             clear HO904
             clear BK898
             clear HB
             have HO_5 := n0_
             have HO_15 := n1_
             have HO896 := n2_
             have HO901 := n3_
             have HO904 := n4_
             have BK898 := n5_
             have HB := n6_
             have BK919 := n7_
             have GW919 := n8_
             have GE919 := n9_
             have NB898_919 := n10_
             have NB919_898 := n11_
             clear n0_ n1_ n2_ n3_ n4_ n5_ n6_ n7_ n8_ n9_ n10_ n11_
             clear hb hbox hg
             refine hK.out _ _ trivial (fun hHeld => ?_)
             clear hK K
             refine norm_ (a' := ?_) ?_ ?_
             rotate_left
             ·show Act.put _ (some 10) _ = _
              simp only [Act.put, List.setIfInBounds_toArray, List.set_cons_zero, List.set_cons_succ, i64_w, i32_w]
              rfl
             exact norm_ (by simp only [putAll, Act.put, List.setIfInBounds_toArray, List.set_cons_zero, List.set_cons_succ]; first | done | rfl) (hJ1_2_6_14 (v900, .slice (some adz_v903) y902.length co59, adz_v903, gb919) _ ⟨HO896.out, HO901.out, HO904.out, HO_15.out, HO_5.out, ⟨_, rfl⟩, BK898.out, BK919.out, GW919.out, GE919.out, NB898_919.out, NB919_898.out, HB.out⟩)
          ·skip
           rintro ⟨v903, adz_v903, v907, gb919⟩ w60 ⟨h0_, h1_, h2_, h3_, h4_, h5_, h6_, h7_, h8_, h9_, h10_, h11_, h12_⟩
           have n0_ : Aside0 (Kd.R k43 43 w60 w.heap.size (fun k_ => nb v907 k_ ∧ nb (.slice Ao8 t880.length co8) k_ ∧ nb (.slice Ao47 x5_1.length co47) k_) (.slice Ao51 t894.length co51) t894) := ⟨h0_⟩
           have n1_ : Aside0 (Kd.R (Kd.int .u16) 40 w60 w.heap.size (fun _ => True) v903 y902) := ⟨h1_⟩
           have n2_ : Aside0 (Kd.R k43 43 w60 w.heap.size (fun k_ => nb (.slice Ao51 t894.length co51) k_ ∧ nb (.slice Ao8 t880.length co8) k_ ∧ nb (.slice Ao47 x5_1.length co47) k_) v907 y906) := ⟨h2_⟩
           have n3_ : Aside0 (Kd.R k43 43 w60 w.heap.size (fun k_ => nb (.slice Ao51 t894.length co51) k_ ∧ nb v907 k_ ∧ nb (.slice Ao47 x5_1.length co47) k_) (.slice Ao8 t880.length co8) t880) := ⟨h3_⟩
           have n4_ : Aside0 (Kd.R k43 43 w60 w.heap.size (fun k_ => nb (.slice Ao51 t894.length co51) k_ ∧ nb v907 k_ ∧ nb (.slice Ao8 t880.length co8) k_) (.slice Ao47 x5_1.length co47) x5_1) := ⟨h4_⟩
           have n5_ : Aside0 (∃ c_, (v903 : Value) = .slice (some adz_v903) y902.length c_) := ⟨h5_⟩
           have n6_ : Aside0 (w60.heap[gb898]? = some (.cells #[.int .i64 t891, .string t892, .bool t893, .slice Ao51 t894.length co51] 28 (0, 0))) := ⟨h6_⟩
           have n7_ : Aside0 (w60.heap[gb919]? = some (.cells #[.int .i64 0, .string (⟨#[]⟩ : ByteArray), .bool false, .slice none 0 0] 28 (0, 0))) := ⟨h7_⟩
           have n8_ : Aside0 (w.heap.size ≤ gb919) := ⟨h8_⟩
           have n9_ : Aside0 (w.heap.size ≤ gb919) := ⟨h9_⟩
           have n10_ : Aside0 (gb898 ≠ gb919) := ⟨h10_⟩
           have n11_ : Aside0 (gb919 ≠ gb898) := ⟨h11_⟩
           have n12_ : Aside0 (Below w.heap.size w w60) := ⟨h12_⟩
           clear HO_5
           clear HO_15
           clear HO896
           clear BK898
           clear HB
           clear h0_ h1_ h2_ h3_ h4_ h5_ h6_ h7_ h8_ h9_ h10_ h11_ h12_
           have HO896 := n0_
           have HO904 := n1_
           have HO908 := n2_
           have HO_15 := n3_
           have HO_5 := n4_
           have HA_HO904 := n5_
           have BK898 := n6_
           have BK919 := n7_
           have GW919 := n8_
           have GE919 := n9_
           have NB898_919 := n10_
           have NB919_898 := n11_
           have HB := n12_
           clear n0_ n1_ n2_ n3_ n4_ n5_ n6_ n7_ n8_ n9_ n10_ n11_ n12_
           have hHeld := trivial
           obtain ⟨co61, eo61⟩ := HA_HO904.out
           clear HA_HO904
           subst eo61
           refine norm_ (a' := ?_) ?_ ?_
           rotate_left
           ·simp only [putAll, Act.put, List.setIfInBounds_toArray, List.set_cons_zero, List.set_cons_succ]
            rfl
           refine one_ (i := 1) (N := some 51) #[true, true, true, true, true, true, true, true, true, false, false, false, false, false, true, false, false] rfl rfl (one_of HT_.out (by kernel_rfl)) (by decide) (fun K hK => ?_)
           refine Kd.R_append_rows_step k43 (w0 := w) w.heap.size rfl (.const (.slice none 0 0)) (.tmp 50) 26 43 (.agg #[(.string ⟨#[]⟩), (.int .u16 0), (.int .u32 0), (.string ⟨#[]⟩)]) 40 rfl Try.underlying26 info43 rfl (by decide) (by omega) (.slice none 0 0) ([] : List (S43)) x5_1 _ _ _ (fun k_ => nb (.slice Ao47 x5_1.length co47) k_ ∧ nb (.slice Ao8 t880.length co8) k_ ∧ nb (.slice Ao51 t894.length co51) k_ ∧ nb v907 k_) (fun _ => False) rfl rfl ?aO ?aR (fun _ _ h => h) (fun _ h => h.elim) ?aF ?aB ?aS ?aL ?_
           (case aR => repeat (first | exact (Kd.R_reads' HO_5.out).2.2 | (with_reducible refine Kd.C_alloc ?_ _) | (with_reducible refine Kd.C_drewN ?_ _) | (with_reducible refine Kd.C_drew ?_)))
           (case aB => exact HB.out)
           (case aF => exact (fun k_ hk => ⟨Kd.fresh' (Kd.R_lt HO_5.out) k_ hk, Kd.fresh' (Kd.R_lt HO_15.out) k_ hk, Kd.fresh' (Kd.R_lt HO896.out) k_ hk, Kd.fresh' (Kd.R_lt HO908.out) k_ hk⟩))
           (case aO => exact ((Kd.R_nil _ _ _ _ (fun k_ => nb (.slice Ao47 x5_1.length co47) k_ ∧ nb (.slice Ao8 t880.length co8) k_ ∧ nb (.slice Ao51 t894.length co51) k_ ∧ nb v907 k_))))
           (case aS => exact (below_size HB.out))
           (case aL => have := LMc35.out; omega)
           intro v900 w62 ho hb hg hat
           rw [← Ny899.out] at ho
           have n0_ := Aside0.mk (Kd.R_after (Kd.R_apart_nil HO_5.out) hg hat)
           have n1_ := Aside0.mk (Kd.R_after (Kd.R_apart_nil HO_15.out) hg hat)
           have n2_ := Aside0.mk (Kd.R_after (Kd.R_apart_nil HO896.out) hg hat)
           have n3_ := Aside0.mk (blk_grown (g := gb898) (o := .cells #[.int .i64 t891, .string t892, .bool t893, .slice Ao51 t894.length co51] 28 (0, 0)) BK898.out hg (by simp [Value.ownBlock]))
           have n4_ := Aside0.mk (Kd.R_grown HO904.out hg (fun _ _ => by simp [Value.ownBlock]))
           have n5_ := Aside0.mk (blk_grown (g := gb919) (o := .cells #[.int .i64 0, .string (⟨#[]⟩ : ByteArray), .bool false, .slice none 0 0] 28 (0, 0)) BK919.out hg (by simp [Value.ownBlock]))
           have n6_ := Aside0.mk (Kd.R_after (Kd.R_apart_nil HO908.out) hg hat)
           have n7_ := Aside0.mk (hb)
           have n8_ := Aside0.mk (ho)
           clear HO_5
           clear HO_15
           clear HO896
           clear BK898
           clear HO904
           clear BK919
           clear HO908
           clear HB
           have HO_5 := n0_
           have HO_15 := n1_
           have HO896 := n2_
           have BK898 := n3_
           have HO904 := n4_
           have BK919 := n5_
           have HO908 := n6_
           have HB := n7_
           have HO901 := n8_
           clear n0_ n1_ n2_ n3_ n4_ n5_ n6_ n7_ n8_
           clear ho hb hg hat
           refine hK.out _ _ trivial (fun hHeld => ?_)
           clear hK K
           refine norm_ (a' := ?_) ?_ ?_
           rotate_left
           ·show Act.put _ (some 51) _ = _
            simp only [Act.put, List.setIfInBounds_toArray, List.set_cons_zero, List.set_cons_succ, i64_w, i32_w]
            rfl
           exact norm_ (by simp only [putAll, Act.put, List.setIfInBounds_toArray, List.set_cons_zero, List.set_cons_succ]; first | done | rfl) (hJ1_2_6_8_14 (v900, .slice (some adz_v903) y902.length co61, adz_v903, v907, gb919) _ ⟨(Kd.R_mono HO896.out (fun _ hk => ⟨hk.2, ⟨hk.1.1, ⟨hk.1.2.1, hk.1.2.2⟩⟩⟩)), (Kd.R_mono HO901.out (fun _ hk => ⟨hk.2.2.1, ⟨hk.2.2.2, ⟨hk.2.1, hk.1⟩⟩⟩)), HO904.out, (Kd.R_mono HO908.out (fun _ hk => ⟨hk.1.1, ⟨hk.2, ⟨hk.1.2.1, hk.1.2.2⟩⟩⟩)), (Kd.R_mono HO_15.out (fun _ hk => ⟨hk.1.1, ⟨hk.2, ⟨hk.1.2.1, hk.1.2.2⟩⟩⟩)), (Kd.R_mono HO_5.out (fun _ hk => ⟨hk.1.1, ⟨hk.2, ⟨hk.1.2.1, hk.1.2.2⟩⟩⟩)), ⟨_, rfl⟩, BK898.out, BK919.out, GW919.out, GE919.out, NB898_919.out, NB919_898.out, HB.out⟩)
         ·skip
          rintro ⟨v900, v903, adz_v903, gb919⟩ w59 ⟨h0_, h1_, h2_, h3_, h4_, h5_, h6_, h7_, h8_, h9_, h10_, h11_, h12_⟩
          have n0_ : Aside0 (Kd.R k43 43 w59 w.heap.size (fun k_ => nb v900 k_ ∧ nb (.slice Ao8 t880.length co8) k_ ∧ nb (.slice Ao47 x5_1.length co47) k_) (.slice Ao51 t894.length co51) t894) := ⟨h0_⟩
          have n1_ : Aside0 (Kd.R k43 43 w59 w.heap.size (fun k_ => nb (.slice Ao51 t894.length co51) k_ ∧ nb (.slice Ao8 t880.length co8) k_ ∧ nb (.slice Ao47 x5_1.length co47) k_) v900 y899) := ⟨h1_⟩
          have n2_ : Aside0 (Kd.R (Kd.int .u16) 40 w59 w.heap.size (fun _ => True) v903 y902) := ⟨h2_⟩
          have n3_ : Aside0 (Kd.R k43 43 w59 w.heap.size (fun k_ => nb (.slice Ao51 t894.length co51) k_ ∧ nb v900 k_ ∧ nb (.slice Ao47 x5_1.length co47) k_) (.slice Ao8 t880.length co8) t880) := ⟨h3_⟩
          have n4_ : Aside0 (Kd.R k43 43 w59 w.heap.size (fun k_ => nb (.slice Ao51 t894.length co51) k_ ∧ nb v900 k_ ∧ nb (.slice Ao8 t880.length co8) k_) (.slice Ao47 x5_1.length co47) x5_1) := ⟨h4_⟩
          have n5_ : Aside0 (∃ c_, (v903 : Value) = .slice (some adz_v903) y902.length c_) := ⟨h5_⟩
          have n6_ : Aside0 (w59.heap[gb898]? = some (.cells #[.int .i64 t891, .string t892, .bool t893, .slice Ao51 t894.length co51] 28 (0, 0))) := ⟨h6_⟩
          have n7_ : Aside0 (w59.heap[gb919]? = some (.cells #[.int .i64 0, .string (⟨#[]⟩ : ByteArray), .bool false, .slice none 0 0] 28 (0, 0))) := ⟨h7_⟩
          have n8_ : Aside0 (w.heap.size ≤ gb919) := ⟨h8_⟩
          have n9_ : Aside0 (w.heap.size ≤ gb919) := ⟨h9_⟩
          have n10_ : Aside0 (gb898 ≠ gb919) := ⟨h10_⟩
          have n11_ : Aside0 (gb919 ≠ gb898) := ⟨h11_⟩
          have n12_ : Aside0 (Below w.heap.size w w59) := ⟨h12_⟩
          clear HO_5
          clear HO_15
          clear HO896
          clear BK898
          clear HB
          clear h0_ h1_ h2_ h3_ h4_ h5_ h6_ h7_ h8_ h9_ h10_ h11_ h12_
          have HO896 := n0_
          have HO901 := n1_
          have HO904 := n2_
          have HO_15 := n3_
          have HO_5 := n4_
          have HA_HO904 := n5_
          have BK898 := n6_
          have BK919 := n7_
          have GW919 := n8_
          have GE919 := n9_
          have NB898_919 := n10_
          have NB919_898 := n11_
          have HB := n12_
          clear n0_ n1_ n2_ n3_ n4_ n5_ n6_ n7_ n8_ n9_ n10_ n11_ n12_
          have hHeld := trivial
          obtain ⟨co60, eo60⟩ := HA_HO904.out
          clear HA_HO904
          subst eo60
          refine norm_ (a' := ?_) ?_ ?_
          rotate_left
          ·simp only [putAll, Act.put, List.setIfInBounds_toArray, List.set_cons_zero, List.set_cons_succ]
           rfl
          refine one_ (i := 8) (N := some 58) #[true, true, true, true, true, true, true, true, true, false, false, false, false, false, true, false, false] rfl rfl (one_of HT_.out (by kernel_rfl)) (by decide) (fun K hK => ?_)
          refine Kd.R_lit_step k43 _ 43 ?hg (N := 58) ?hd (xs := ([(⟨(⟨#[]⟩ : ByteArray), rd y902 (ji36), 0, (⟨#[]⟩ : ByteArray)⟩ : S43)] : List (S43))) (inner := [.string (⟨#[]⟩ : ByteArray), .int .u16 (rd y902 (ji36)), .int .u32 0, .string (⟨#[]⟩ : ByteArray)]) (ok := fun _ => True) (okp := fun _ => True) ?hr ?hp (fun _ hk => hk) trivial (Below.refl _ _) (Nat.le_refl _) (by simp) ?_; (case hd => rfl); (case hg => rfl); (case hr => first | (go_simp; done) | (go_simp; rfl)); (case hp => exact (Reps.c4 (show Kd.M k43 _ _ _ (⟨(⟨#[]⟩ : ByteArray), rd y902 (ji36), 0, (⟨#[]⟩ : ByteArray)⟩ : S43) [.string (⟨#[]⟩ : ByteArray), .int .u16 (rd y902 (ji36)), .int .u32 0, .string (⟨#[]⟩ : ByteArray)] from (k43_mkM _ _ _ (⟨(⟨#[]⟩ : ByteArray), rd y902 (ji36), 0, (⟨#[]⟩ : ByteArray)⟩ : S43) )) (Reps.none _ _)))
          intro v907 w61 ho62 hb hg_ hnew_
          clear hg_ hnew_
          (first | rw [← Ny906.out] at ho62 | (simp only [Int.reduceToNat] at ho62; rw [← Ny906.out] at ho62))
          have n0_ := Aside0.mk (Kd.R_elder' HO_5.out (Kd.R_base ho62) hb)
          have n1_ := Aside0.mk (Kd.R_elder' HO_15.out (Kd.R_base ho62) hb)
          have n2_ := Aside0.mk (Kd.R_elder' HO896.out (Kd.R_base ho62) hb)
          have n3_ := Aside0.mk (Kd.R_elder' HO901.out (Kd.R_base ho62) hb)
          have n4_ := Aside0.mk (Kd.R_below HO904.out hb)
          have n5_ := Aside0.mk (Kd.R_lower (Kd.R_new' (Kd.R_new' (Kd.R_new' (Kd.R_new' ho62 (Kd.R_lt HO_5.out)) (Kd.R_lt HO_15.out)) (Kd.R_lt HO896.out)) (Kd.R_lt HO901.out)) (below_size HB.out))
          have n6_ := Aside0.mk (blk_below (g := gb898) (o := .cells #[.int .i64 t891, .string t892, .bool t893, .slice Ao51 t894.length co51] 28 (0, 0)) BK898.out hb)
          have n7_ := Aside0.mk (blk_below (g := gb919) (o := .cells #[.int .i64 0, .string (⟨#[]⟩ : ByteArray), .bool false, .slice none 0 0] 28 (0, 0)) BK919.out hb)
          have n8_ := Aside0.mk (below_step HB.out hb)
          clear HO_5
          clear HO_15
          clear HO896
          clear HO901
          clear HO904
          clear BK898
          clear BK919
          clear HB
          have HO_5 := n0_
          have HO_15 := n1_
          have HO896 := n2_
          have HO901 := n3_
          have HO904 := n4_
          have HO908 := n5_
          have BK898 := n6_
          have BK919 := n7_
          have HB := n8_
          clear n0_ n1_ n2_ n3_ n4_ n5_ n6_ n7_ n8_
          clear hb ho62
          refine hK.out _ _ trivial (fun hHeld => ?_)
          clear hK K
          refine norm_ (a' := ?_) ?_ ?_
          rotate_left
          ·show Act.put _ (some 58) _ = _
           simp only [Act.put, List.setIfInBounds_toArray, List.set_cons_zero, List.set_cons_succ, i64_w, i32_w]
           rfl
          exact norm_ (by simp only [putAll, Act.put, List.setIfInBounds_toArray, List.set_cons_zero, List.set_cons_succ]; first | done | rfl) (hJ1_2_6_8_14 (v900, .slice (some adz_v903) y902.length co60, adz_v903, v907, gb919) _ ⟨(Kd.R_mono HO896.out (fun _ hk => ⟨hk.1.1, ⟨hk.2, ⟨hk.1.2.1, hk.1.2.2⟩⟩⟩)), (Kd.R_mono HO901.out (fun _ hk => ⟨hk.1.1, ⟨hk.2, ⟨hk.1.2.1, hk.1.2.2⟩⟩⟩)), HO904.out, (Kd.R_mono HO908.out (fun _ hk => ⟨hk.1.2, ⟨hk.2, ⟨hk.1.1.2, hk.1.1.1.2⟩⟩⟩)), (Kd.R_mono HO_15.out (fun _ hk => ⟨hk.1.1, ⟨hk.1.2.1, ⟨hk.2, hk.1.2.2⟩⟩⟩)), (Kd.R_mono HO_5.out (fun _ hk => ⟨hk.1.1, ⟨hk.1.2.1, ⟨hk.2, hk.1.2.2⟩⟩⟩)), ⟨_, rfl⟩, BK898.out, BK919.out, GW919.out, GE919.out, NB898_919.out, NB919_898.out, HB.out⟩)
        ·skip
         rintro ⟨v900, v903, adz_v903, v907⟩ w60 ⟨h0_, h1_, h2_, h3_, h4_, h5_, h6_, h7_, h8_⟩
         have n0_ : Aside0 (Kd.R k43 43 w60 w.heap.size (fun k_ => nb v900 k_ ∧ nb v907 k_ ∧ nb (.slice Ao8 t880.length co8) k_ ∧ nb (.slice Ao47 x5_1.length co47) k_) (.slice Ao51 t894.length co51) t894) := ⟨h0_⟩
         have n1_ : Aside0 (Kd.R k43 43 w60 w.heap.size (fun k_ => nb (.slice Ao51 t894.length co51) k_ ∧ nb v907 k_ ∧ nb (.slice Ao8 t880.length co8) k_ ∧ nb (.slice Ao47 x5_1.length co47) k_) v900 y899) := ⟨h1_⟩
         have n2_ : Aside0 (Kd.R (Kd.int .u16) 40 w60 w.heap.size (fun _ => True) v903 y902) := ⟨h2_⟩
         have n3_ : Aside0 (Kd.R k43 43 w60 w.heap.size (fun k_ => nb (.slice Ao51 t894.length co51) k_ ∧ nb v900 k_ ∧ nb (.slice Ao8 t880.length co8) k_ ∧ nb (.slice Ao47 x5_1.length co47) k_) v907 y906) := ⟨h3_⟩
         have n4_ : Aside0 (Kd.R k43 43 w60 w.heap.size (fun k_ => nb (.slice Ao51 t894.length co51) k_ ∧ nb v900 k_ ∧ nb v907 k_ ∧ nb (.slice Ao47 x5_1.length co47) k_) (.slice Ao8 t880.length co8) t880) := ⟨h4_⟩
         have n5_ : Aside0 (Kd.R k43 43 w60 w.heap.size (fun k_ => nb (.slice Ao51 t894.length co51) k_ ∧ nb v900 k_ ∧ nb v907 k_ ∧ nb (.slice Ao8 t880.length co8) k_) (.slice Ao47 x5_1.length co47) x5_1) := ⟨h5_⟩
         have n6_ : Aside0 (∃ c_, (v903 : Value) = .slice (some adz_v903) y902.length c_) := ⟨h6_⟩
         have n7_ : Aside0 (w60.heap[gb898]? = some (.cells #[.int .i64 t891, .string t892, .bool t893, .slice Ao51 t894.length co51] 28 (0, 0))) := ⟨h7_⟩
         have n8_ : Aside0 (Below w.heap.size w w60) := ⟨h8_⟩
         clear HO_5
         clear HO_15
         clear HO896
         clear BK898
         clear HB
         clear h0_ h1_ h2_ h3_ h4_ h5_ h6_ h7_ h8_
         have HO896 := n0_
         have HO901 := n1_
         have HO904 := n2_
         have HO908 := n3_
         have HO_15 := n4_
         have HO_5 := n5_
         have HA_HO904 := n6_
         have BK898 := n7_
         have HB := n8_
         clear n0_ n1_ n2_ n3_ n4_ n5_ n6_ n7_ n8_
         have hHeld := trivial
         obtain ⟨co61, eo61⟩ := HA_HO904.out
         clear HA_HO904
         subst eo61
         obtain ⟨Ao63, co63, eo63⟩ := Kd.R_slice HO908.out
         (first | subst eo63 | (injection eo63 with f1_ f2_ f3_; have f4_ := f1_.symm; have f5_ := f3_.symm; clear f1_ f2_ f3_; subst f4_; subst f5_))
         refine norm_ (a' := ?_) ?_ ?_
         rotate_left
         ·simp only [putAll, Act.put, List.setIfInBounds_toArray, List.set_cons_zero, List.set_cons_succ]
          rfl
         refine two_ (i := 9) (j := 14) (Ni := some 59) (Nj := some 10) #[true, true, true, true, true, true, true, true, true, true, false, false, false, false, false, false, false] #[true, true, true, true, true, true, true, true, true, false, false, false, false, false, true, false, false] rfl rfl rfl rfl (two_of HT_.out (by kernel_rfl)) (by decide) (by decide) (fun K hK => ?_) (fun K hK => ?_)
         ·skip
          refine Kd.R_append_rows_step k43 (w0 := w) w.heap.size (by rfl) (.tmp 51) (.tmp 58) 26 43 (.agg #[(.string ⟨#[]⟩), (.int .u16 0), (.int .u32 0), (.string ⟨#[]⟩)]) 40 rfl Try.underlying26 info43 rfl (by decide) (by omega) v900 y899 y906 _ _ _ (fun k_ => nb (.slice Ao47 x5_1.length co47) k_ ∧ nb (.slice Ao8 t880.length co8) k_ ∧ nb (.slice Ao51 t894.length co51) k_ ∧ nb (.slice Ao63 y906.length co63) k_) (fun _ => False) rfl rfl ?aO ?aR (fun _ _ h => h) (fun _ h => h.elim) ?aF ?aB ?aS ?aL ?_
          (case aR => repeat (first | exact (Kd.R_reads' HO908.out).2.2 | (with_reducible refine Kd.C_alloc ?_ _) | (with_reducible refine Kd.C_drewN ?_ _) | (with_reducible refine Kd.C_drew ?_)))
          (case aB => exact HB.out)
          (case aF => exact (fun k_ hk => ⟨Kd.fresh' (Kd.R_lt HO_5.out) k_ hk, Kd.fresh' (Kd.R_lt HO_15.out) k_ hk, Kd.fresh' (Kd.R_lt HO896.out) k_ hk, Kd.fresh' (Kd.R_lt HO908.out) k_ hk⟩))
          (case aO => exact (Kd.R_mono HO901.out (fun _ hk => ⟨hk.2.2.2, ⟨hk.2.2.1, ⟨hk.1, hk.2.1⟩⟩⟩)))
          (case aS => exact (below_size HB.out))
          (case aL => have := LMc39.out; omega)
          intro v910 w62 ho hb hg hat
          rw [← Ny909.out] at ho
          have n0_ := Aside0.mk (Kd.R_after (ok := (fun k_ => nb (.slice Ao8 t880.length co8) k_ ∧ nb (.slice Ao51 t894.length co51) k_ ∧ nb (.slice Ao63 y906.length co63) k_)) (Kd.R_mono HO_5.out (fun _ hk => ⟨⟨hk.2.2.2, ⟨hk.1, hk.2.2.1⟩⟩, hk.2.1⟩)) hg hat)
          have n1_ := Aside0.mk (Kd.R_after (ok := (fun k_ => nb (.slice Ao47 x5_1.length co47) k_ ∧ nb (.slice Ao51 t894.length co51) k_ ∧ nb (.slice Ao63 y906.length co63) k_)) (Kd.R_mono HO_15.out (fun _ hk => ⟨⟨hk.2.2.2, ⟨hk.1, hk.2.2.1⟩⟩, hk.2.1⟩)) hg hat)
          have n2_ := Aside0.mk (Kd.R_after (ok := (fun k_ => nb (.slice Ao47 x5_1.length co47) k_ ∧ nb (.slice Ao8 t880.length co8) k_ ∧ nb (.slice Ao63 y906.length co63) k_)) (Kd.R_mono HO896.out (fun _ hk => ⟨⟨hk.2.2.2, ⟨hk.2.2.1, hk.2.1⟩⟩, hk.1⟩)) hg hat)
          have n3_ := Aside0.mk (blk_grown (g := gb898) (o := .cells #[.int .i64 t891, .string t892, .bool t893, .slice Ao51 t894.length co51] 28 (0, 0)) BK898.out hg (Kd.R_ne HO901.out BK898.out (by decide)))
          have n4_ := Aside0.mk (Kd.R_over' HO904.out (Kd.R_typed HO901.out) (by decide) hg)
          have n5_ := Aside0.mk (Kd.R_after (ok := (fun k_ => nb (.slice Ao47 x5_1.length co47) k_ ∧ nb (.slice Ao8 t880.length co8) k_ ∧ nb (.slice Ao51 t894.length co51) k_)) (Kd.R_mono HO908.out (fun _ hk => ⟨⟨hk.2.2.2, ⟨hk.2.2.1, hk.1⟩⟩, hk.2.1⟩)) hg hat)
          have n6_ := Aside0.mk (hb)
          have n7_ := Aside0.mk (ho)
          clear HO_5
          clear HO_15
          clear HO896
          clear BK898
          clear HO904
          clear HO908
          clear HB
          clear HO901
          have HO_5 := n0_
          have HO_15 := n1_
          have HO896 := n2_
          have BK898 := n3_
          have HO904 := n4_
          have HO908 := n5_
          have HB := n6_
          have HO911 := n7_
          clear n0_ n1_ n2_ n3_ n4_ n5_ n6_ n7_
          clear ho hb hg hat
          refine hK.out _ _ trivial (fun hHeld => ?_)
          clear hK K
          refine norm_ (a' := ?_) ?_ ?_
          rotate_left
          ·show Act.put _ (some 59) _ = _
           simp only [Act.put, List.setIfInBounds_toArray, List.set_cons_zero, List.set_cons_succ, i64_w, i32_w]
           rfl
          exact norm_ (by simp only [putAll, Act.put, List.setIfInBounds_toArray, List.set_cons_zero, List.set_cons_succ]; first | done | rfl) (hJ1_2_6_8_9 (v900, .slice (some adz_v903) y902.length co61, adz_v903, .slice Ao63 y906.length co63, v910) _ ⟨(Kd.R_mono HO896.out (fun _ hk => ⟨hk.1.2.2, ⟨hk.2, ⟨hk.1.2.1, hk.1.1⟩⟩⟩)), HO904.out, (Kd.R_mono HO908.out (fun _ hk => ⟨hk.1.2.2, ⟨hk.2, ⟨hk.1.2.1, hk.1.1⟩⟩⟩)), (Kd.R_mono HO911.out (fun _ hk => ⟨hk.2.2.1, ⟨hk.2.2.2, ⟨hk.2.1, hk.1⟩⟩⟩)), (Kd.R_mono HO_15.out (fun _ hk => ⟨hk.1.2.1, ⟨hk.1.2.2, ⟨hk.2, hk.1.1⟩⟩⟩)), (Kd.R_mono HO_5.out (fun _ hk => ⟨hk.1.2.1, ⟨hk.1.2.2, ⟨hk.2, hk.1.1⟩⟩⟩)), ⟨_, rfl⟩, BK898.out, HB.out⟩)
         ·skip
          refine box_step ?hg (N := 10) ?hd (cs := #[.int .i64 0, .string (⟨#[]⟩ : ByteArray), .bool false, .slice none 0 0]) (t := 28) ?hr ?_; (case hd => rfl); (case hg => rfl); (case hr => first | (go_simp; done) | (go_simp; rfl))
          intro gb919 hg w62 hbox hb
          have n0_ := Aside0.mk (Kd.R_below HO_5.out hb)
          have n1_ := Aside0.mk (Kd.R_below HO_15.out hb)
          have n2_ := Aside0.mk (Kd.R_below HO896.out hb)
          have n3_ := Aside0.mk (Kd.R_below HO901.out hb)
          have n4_ := Aside0.mk (Kd.R_below HO904.out hb)
          have n5_ := Aside0.mk (Kd.R_below HO908.out hb)
          have n6_ := Aside0.mk (blk_below (g := gb898) (o := .cells #[.int .i64 t891, .string t892, .bool t893, .slice Ao51 t894.length co51] 28 (0, 0)) BK898.out hb)
          have n7_ := Aside0.mk (below_step HB.out hb)
          have n8_ := Aside0.mk (hbox)
          have n9_ := Aside0.mk ((by rw [hg]; exact (below_size HB.out) : w.heap.size ≤ gb919))
          have n10_ := Aside0.mk ((by rw [hg]; exact (below_size HB.out) : w.heap.size ≤ gb919))
          have n11_ := Aside0.mk ((by rw [hg]; exact Nat.ne_of_lt (blk_lt (g := gb898) (o := .cells #[.int .i64 t891, .string t892, .bool t893, .slice Ao51 t894.length co51] 28 (0, 0)) BK898.out) : gb898 ≠ gb919))
          have n12_ := Aside0.mk ((by rw [hg]; exact Nat.ne_of_gt (blk_lt (g := gb898) (o := .cells #[.int .i64 t891, .string t892, .bool t893, .slice Ao51 t894.length co51] 28 (0, 0)) BK898.out) : gb919 ≠ gb898))
          clear HO_5
          clear HO_15
          clear HO896
          clear HO901
          clear HO904
          clear HO908
          clear BK898
          clear HB
          have HO_5 := n0_
          have HO_15 := n1_
          have HO896 := n2_
          have HO901 := n3_
          have HO904 := n4_
          have HO908 := n5_
          have BK898 := n6_
          have HB := n7_
          have BK919 := n8_
          have GW919 := n9_
          have GE919 := n10_
          have NB898_919 := n11_
          have NB919_898 := n12_
          clear n0_ n1_ n2_ n3_ n4_ n5_ n6_ n7_ n8_ n9_ n10_ n11_ n12_
          clear hb hbox hg
          refine hK.out _ _ trivial (fun hHeld => ?_)
          clear hK K
          refine norm_ (a' := ?_) ?_ ?_
          rotate_left
          ·show Act.put _ (some 10) _ = _
           simp only [Act.put, List.setIfInBounds_toArray, List.set_cons_zero, List.set_cons_succ, i64_w, i32_w]
           rfl
          exact norm_ (by simp only [putAll, Act.put, List.setIfInBounds_toArray, List.set_cons_zero, List.set_cons_succ]; first | done | rfl) (hJ1_2_6_8_14 (v900, .slice (some adz_v903) y902.length co61, adz_v903, .slice Ao63 y906.length co63, gb919) _ ⟨HO896.out, HO901.out, HO904.out, HO908.out, HO_15.out, HO_5.out, ⟨_, rfl⟩, BK898.out, BK919.out, GW919.out, GE919.out, NB898_919.out, NB919_898.out, HB.out⟩)
       ·skip
        rintro ⟨v900, v903, adz_v903, v907, gb919⟩ w61 ⟨h0_, h1_, h2_, h3_, h4_, h5_, h6_, h7_, h8_, h9_, h10_, h11_, h12_, h13_⟩
        have n0_ : Aside0 (Kd.R k43 43 w61 w.heap.size (fun k_ => nb v900 k_ ∧ nb v907 k_ ∧ nb (.slice Ao8 t880.length co8) k_ ∧ nb (.slice Ao47 x5_1.length co47) k_) (.slice Ao51 t894.length co51) t894) := ⟨h0_⟩
        have n1_ : Aside0 (Kd.R k43 43 w61 w.heap.size (fun k_ => nb (.slice Ao51 t894.length co51) k_ ∧ nb v907 k_ ∧ nb (.slice Ao8 t880.length co8) k_ ∧ nb (.slice Ao47 x5_1.length co47) k_) v900 y899) := ⟨h1_⟩
        have n2_ : Aside0 (Kd.R (Kd.int .u16) 40 w61 w.heap.size (fun _ => True) v903 y902) := ⟨h2_⟩
        have n3_ : Aside0 (Kd.R k43 43 w61 w.heap.size (fun k_ => nb (.slice Ao51 t894.length co51) k_ ∧ nb v900 k_ ∧ nb (.slice Ao8 t880.length co8) k_ ∧ nb (.slice Ao47 x5_1.length co47) k_) v907 y906) := ⟨h3_⟩
        have n4_ : Aside0 (Kd.R k43 43 w61 w.heap.size (fun k_ => nb (.slice Ao51 t894.length co51) k_ ∧ nb v900 k_ ∧ nb v907 k_ ∧ nb (.slice Ao47 x5_1.length co47) k_) (.slice Ao8 t880.length co8) t880) := ⟨h4_⟩
        have n5_ : Aside0 (Kd.R k43 43 w61 w.heap.size (fun k_ => nb (.slice Ao51 t894.length co51) k_ ∧ nb v900 k_ ∧ nb v907 k_ ∧ nb (.slice Ao8 t880.length co8) k_) (.slice Ao47 x5_1.length co47) x5_1) := ⟨h5_⟩
        have n6_ : Aside0 (∃ c_, (v903 : Value) = .slice (some adz_v903) y902.length c_) := ⟨h6_⟩
        have n7_ : Aside0 (w61.heap[gb898]? = some (.cells #[.int .i64 t891, .string t892, .bool t893, .slice Ao51 t894.length co51] 28 (0, 0))) := ⟨h7_⟩
        have n8_ : Aside0 (w61.heap[gb919]? = some (.cells #[.int .i64 0, .string (⟨#[]⟩ : ByteArray), .bool false, .slice none 0 0] 28 (0, 0))) := ⟨h8_⟩
        have n9_ : Aside0 (w.heap.size ≤ gb919) := ⟨h9_⟩
        have n10_ : Aside0 (w.heap.size ≤ gb919) := ⟨h10_⟩
        have n11_ : Aside0 (gb898 ≠ gb919) := ⟨h11_⟩
        have n12_ : Aside0 (gb919 ≠ gb898) := ⟨h12_⟩
        have n13_ : Aside0 (Below w.heap.size w w61) := ⟨h13_⟩
        clear HO_5
        clear HO_15
        clear HO896
        clear BK898
        clear HB
        clear h0_ h1_ h2_ h3_ h4_ h5_ h6_ h7_ h8_ h9_ h10_ h11_ h12_ h13_
        have HO896 := n0_
        have HO901 := n1_
        have HO904 := n2_
        have HO908 := n3_
        have HO_15 := n4_
        have HO_5 := n5_
        have HA_HO904 := n6_
        have BK898 := n7_
        have BK919 := n8_
        have GW919 := n9_
        have GE919 := n10_
        have NB898_919 := n11_
        have NB919_898 := n12_
        have HB := n13_
        clear n0_ n1_ n2_ n3_ n4_ n5_ n6_ n7_ n8_ n9_ n10_ n11_ n12_ n13_
        have hHeld := trivial
        obtain ⟨co62, eo62⟩ := HA_HO904.out
        clear HA_HO904
        subst eo62
        obtain ⟨Ao64, co64, eo64⟩ := Kd.R_slice HO908.out
        (first | subst eo64 | (injection eo64 with f1_ f2_ f3_; have f4_ := f1_.symm; have f5_ := f3_.symm; clear f1_ f2_ f3_; subst f4_; subst f5_))
        refine norm_ (a' := ?_) ?_ ?_
        rotate_left
        ·simp only [putAll, Act.put, List.setIfInBounds_toArray, List.set_cons_zero, List.set_cons_succ]
         rfl
        refine one_ (i := 9) (N := some 59) #[true, true, true, true, true, true, true, true, true, true, false, false, false, false, true, false, false] rfl rfl (one_of HT_.out (by kernel_rfl)) (by decide) (fun K hK => ?_)
        refine Kd.R_append_rows_step k43 (w0 := w) w.heap.size (by rfl) (.tmp 51) (.tmp 58) 26 43 (.agg #[(.string ⟨#[]⟩), (.int .u16 0), (.int .u32 0), (.string ⟨#[]⟩)]) 40 rfl Try.underlying26 info43 rfl (by decide) (by omega) v900 y899 y906 _ _ _ (fun k_ => nb (.slice Ao47 x5_1.length co47) k_ ∧ nb (.slice Ao8 t880.length co8) k_ ∧ nb (.slice Ao51 t894.length co51) k_ ∧ nb (.slice Ao64 y906.length co64) k_) (fun _ => False) rfl rfl ?aO ?aR (fun _ _ h => h) (fun _ h => h.elim) ?aF ?aB ?aS ?aL ?_
        (case aR => repeat (first | exact (Kd.R_reads' HO908.out).2.2 | (with_reducible refine Kd.C_alloc ?_ _) | (with_reducible refine Kd.C_drewN ?_ _) | (with_reducible refine Kd.C_drew ?_)))
        (case aB => exact HB.out)
        (case aF => exact (fun k_ hk => ⟨Kd.fresh' (Kd.R_lt HO_5.out) k_ hk, Kd.fresh' (Kd.R_lt HO_15.out) k_ hk, Kd.fresh' (Kd.R_lt HO896.out) k_ hk, Kd.fresh' (Kd.R_lt HO908.out) k_ hk⟩))
        (case aO => exact (Kd.R_mono HO901.out (fun _ hk => ⟨hk.2.2.2, ⟨hk.2.2.1, ⟨hk.1, hk.2.1⟩⟩⟩)))
        (case aS => exact (below_size HB.out))
        (case aL => have := LMc39.out; omega)
        intro v910 w63 ho hb hg hat
        rw [← Ny909.out] at ho
        have n0_ := Aside0.mk (Kd.R_after (ok := (fun k_ => nb (.slice Ao8 t880.length co8) k_ ∧ nb (.slice Ao51 t894.length co51) k_ ∧ nb (.slice Ao64 y906.length co64) k_)) (Kd.R_mono HO_5.out (fun _ hk => ⟨⟨hk.2.2.2, ⟨hk.1, hk.2.2.1⟩⟩, hk.2.1⟩)) hg hat)
        have n1_ := Aside0.mk (Kd.R_after (ok := (fun k_ => nb (.slice Ao47 x5_1.length co47) k_ ∧ nb (.slice Ao51 t894.length co51) k_ ∧ nb (.slice Ao64 y906.length co64) k_)) (Kd.R_mono HO_15.out (fun _ hk => ⟨⟨hk.2.2.2, ⟨hk.1, hk.2.2.1⟩⟩, hk.2.1⟩)) hg hat)
        have n2_ := Aside0.mk (Kd.R_after (ok := (fun k_ => nb (.slice Ao47 x5_1.length co47) k_ ∧ nb (.slice Ao8 t880.length co8) k_ ∧ nb (.slice Ao64 y906.length co64) k_)) (Kd.R_mono HO896.out (fun _ hk => ⟨⟨hk.2.2.2, ⟨hk.2.2.1, hk.2.1⟩⟩, hk.1⟩)) hg hat)
        have n3_ := Aside0.mk (blk_grown (g := gb898) (o := .cells #[.int .i64 t891, .string t892, .bool t893, .slice Ao51 t894.length co51] 28 (0, 0)) BK898.out hg (Kd.R_ne HO901.out BK898.out (by decide)))
        have n4_ := Aside0.mk (Kd.R_over' HO904.out (Kd.R_typed HO901.out) (by decide) hg)
        have n5_ := Aside0.mk (blk_grown (g := gb919) (o := .cells #[.int .i64 0, .string (⟨#[]⟩ : ByteArray), .bool false, .slice none 0 0] 28 (0, 0)) BK919.out hg (Kd.R_ne HO901.out BK919.out (by decide)))
        have n6_ := Aside0.mk (Kd.R_after (ok := (fun k_ => nb (.slice Ao47 x5_1.length co47) k_ ∧ nb (.slice Ao8 t880.length co8) k_ ∧ nb (.slice Ao51 t894.length co51) k_)) (Kd.R_mono HO908.out (fun _ hk => ⟨⟨hk.2.2.2, ⟨hk.2.2.1, hk.1⟩⟩, hk.2.1⟩)) hg hat)
        have n7_ := Aside0.mk (hb)
        have n8_ := Aside0.mk (ho)
        clear HO_5
        clear HO_15
        clear HO896
        clear BK898
        clear HO904
        clear BK919
        clear HO908
        clear HB
        clear HO901
        have HO_5 := n0_
        have HO_15 := n1_
        have HO896 := n2_
        have BK898 := n3_
        have HO904 := n4_
        have BK919 := n5_
        have HO908 := n6_
        have HB := n7_
        have HO911 := n8_
        clear n0_ n1_ n2_ n3_ n4_ n5_ n6_ n7_ n8_
        clear ho hb hg hat
        refine hK.out _ _ trivial (fun hHeld => ?_)
        clear hK K
        refine norm_ (a' := ?_) ?_ ?_
        rotate_left
        ·show Act.put _ (some 59) _ = _
         simp only [Act.put, List.setIfInBounds_toArray, List.set_cons_zero, List.set_cons_succ, i64_w, i32_w]
         rfl
        exact norm_ (by simp only [putAll, Act.put, List.setIfInBounds_toArray, List.set_cons_zero, List.set_cons_succ]; first | done | rfl) (hJ1_2_6_8_9_14 (v900, .slice (some adz_v903) y902.length co62, adz_v903, .slice Ao64 y906.length co64, v910, gb919) _ ⟨(Kd.R_mono HO896.out (fun _ hk => ⟨hk.1.2.2, ⟨hk.2, ⟨hk.1.2.1, hk.1.1⟩⟩⟩)), HO904.out, (Kd.R_mono HO908.out (fun _ hk => ⟨hk.1.2.2, ⟨hk.2, ⟨hk.1.2.1, hk.1.1⟩⟩⟩)), (Kd.R_mono HO911.out (fun _ hk => ⟨hk.2.2.1, ⟨hk.2.2.2, ⟨hk.2.1, hk.1⟩⟩⟩)), (Kd.R_mono HO_15.out (fun _ hk => ⟨hk.1.2.1, ⟨hk.1.2.2, ⟨hk.2, hk.1.1⟩⟩⟩)), (Kd.R_mono HO_5.out (fun _ hk => ⟨hk.1.2.1, ⟨hk.1.2.2, ⟨hk.2, hk.1.1⟩⟩⟩)), ⟨_, rfl⟩, BK898.out, BK919.out, GW919.out, GE919.out, NB898_919.out, NB919_898.out, HB.out⟩)
      ·skip
       rintro ⟨v900, v903, adz_v903, v907, v910⟩ w62 ⟨h0_, h1_, h2_, h3_, h4_, h5_, h6_, h7_, h8_⟩
       have n0_ : Aside0 (Kd.R k43 43 w62 w.heap.size (fun k_ => nb v907 k_ ∧ nb v910 k_ ∧ nb (.slice Ao8 t880.length co8) k_ ∧ nb (.slice Ao47 x5_1.length co47) k_) (.slice Ao51 t894.length co51) t894) := ⟨h0_⟩
       have n1_ : Aside0 (Kd.R (Kd.int .u16) 40 w62 w.heap.size (fun _ => True) v903 y902) := ⟨h1_⟩
       have n2_ : Aside0 (Kd.R k43 43 w62 w.heap.size (fun k_ => nb (.slice Ao51 t894.length co51) k_ ∧ nb v910 k_ ∧ nb (.slice Ao8 t880.length co8) k_ ∧ nb (.slice Ao47 x5_1.length co47) k_) v907 y906) := ⟨h2_⟩
       have n3_ : Aside0 (Kd.R k43 43 w62 w.heap.size (fun k_ => nb (.slice Ao51 t894.length co51) k_ ∧ nb v907 k_ ∧ nb (.slice Ao8 t880.length co8) k_ ∧ nb (.slice Ao47 x5_1.length co47) k_) v910 y909) := ⟨h3_⟩
       have n4_ : Aside0 (Kd.R k43 43 w62 w.heap.size (fun k_ => nb (.slice Ao51 t894.length co51) k_ ∧ nb v907 k_ ∧ nb v910 k_ ∧ nb (.slice Ao47 x5_1.length co47) k_) (.slice Ao8 t880.length co8) t880) := ⟨h4_⟩
       have n5_ : Aside0 (Kd.R k43 43 w62 w.heap.size (fun k_ => nb (.slice Ao51 t894.length co51) k_ ∧ nb v907 k_ ∧ nb v910 k_ ∧ nb (.slice Ao8 t880.length co8) k_) (.slice Ao47 x5_1.length co47) x5_1) := ⟨h5_⟩
       have n6_ : Aside0 (∃ c_, (v903 : Value) = .slice (some adz_v903) y902.length c_) := ⟨h6_⟩
       have n7_ : Aside0 (w62.heap[gb898]? = some (.cells #[.int .i64 t891, .string t892, .bool t893, .slice Ao51 t894.length co51] 28 (0, 0))) := ⟨h7_⟩
       have n8_ : Aside0 (Below w.heap.size w w62) := ⟨h8_⟩
       clear HO_5
       clear HO_15
       clear HO896
       clear BK898
       clear HB
       clear h0_ h1_ h2_ h3_ h4_ h5_ h6_ h7_ h8_
       have HO896 := n0_
       have HO904 := n1_
       have HO908 := n2_
       have HO911 := n3_
       have HO_15 := n4_
       have HO_5 := n5_
       have HA_HO904 := n6_
       have BK898 := n7_
       have HB := n8_
       clear n0_ n1_ n2_ n3_ n4_ n5_ n6_ n7_ n8_
       have hHeld := trivial
       obtain ⟨co63, eo63⟩ := HA_HO904.out
       clear HA_HO904
       subst eo63
       obtain ⟨Ao64, co64, eo64⟩ := Kd.R_slice HO911.out
       (first | subst eo64 | (injection eo64 with f1_ f2_ f3_; have f4_ := f1_.symm; have f5_ := f3_.symm; clear f1_ f2_ f3_; subst f4_; subst f5_))
       refine norm_ (a' := ?_) ?_ ?_
       rotate_left
       ·simp only [putAll, Act.put, List.setIfInBounds_toArray, List.set_cons_zero, List.set_cons_succ]
        rfl
       refine two_ (i := 10) (j := 14) (Ni := some 60) (Nj := some 10) #[true, true, true, true, true, true, true, true, true, true, true, false, false, false, false, false, false] #[true, true, true, true, true, true, true, true, true, true, false, false, false, false, true, false, false] rfl rfl rfl rfl (two_of HT_.out (by kernel_rfl)) (by decide) (by decide) (fun K hK => ?_) (fun K hK => ?_)
       ·skip
        refine goes_ Try.func19 (by kernel_rfl) rfl #[.slice Ao64 y909.length co64] (by rfl) rfl rfl (by (try simp only [List.map_toArray, List.map_cons, List.map_nil]); first | done | rfl | (simp only [List.length_drop, List.length_take]; rfl)) ?_
        with_reducible refine (action_Of.calls k1 _ _ y909 t912 t913 t914 t915 false _ ?side1 ?side2 A40.out).mono ?_
        (case side1 => repeat (first | exact (Kd.R_reads' HO911.out).2.2 | (with_reducible refine Kd.C_alloc ?_ _) | (with_reducible refine Kd.C_drewN ?_ _) | (with_reducible refine Kd.C_drew ?_)))
        (case side2 => exact (Kd.R_reads' HO911.out).2.1)
        rintro e w65 ⟨v916, rfl, ho0, hb⟩
        refine ⟨_, rfl, ?_⟩
        have n0_ := Aside0.mk (Kd.R_elder' HO_5.out (Kd.R_base ho0) hb)
        have n1_ := Aside0.mk (Kd.R_elder' HO_15.out (Kd.R_base ho0) hb)
        have n2_ := Aside0.mk (Kd.R_elder' HO896.out (Kd.R_base ho0) hb)
        have n3_ := Aside0.mk (Kd.R_below HO904.out hb)
        have n4_ := Aside0.mk (Kd.R_elder' HO908.out (Kd.R_base ho0) hb)
        have n5_ := Aside0.mk (Kd.R_elder' HO911.out (Kd.R_base ho0) hb)
        have n6_ := Aside0.mk (Kd.R_lower (Kd.R_new' (Kd.R_new' (Kd.R_new' (Kd.R_new' (Kd.R_new' ho0 (Kd.R_lt HO_5.out)) (Kd.R_lt HO_15.out)) (Kd.R_lt HO896.out)) (Kd.R_lt HO908.out)) (Kd.R_lt HO911.out)) (below_size HB.out))
        have n7_ := Aside0.mk (blk_below (g := gb898) (o := .cells #[.int .i64 t891, .string t892, .bool t893, .slice Ao51 t894.length co51] 28 (0, 0)) BK898.out hb)
        have n8_ := Aside0.mk (below_step HB.out hb)
        clear HO_5
        clear HO_15
        clear HO896
        clear HO904
        clear HO908
        clear HO911
        clear BK898
        clear HB
        have HO_5 := n0_
        have HO_15 := n1_
        have HO896 := n2_
        have HO904 := n3_
        have HO908 := n4_
        have HO911 := n5_
        have HO917 := n6_
        have BK898 := n7_
        have HB := n8_
        clear n0_ n1_ n2_ n3_ n4_ n5_ n6_ n7_ n8_
        (try clear hb)
        (try clear hb2)
        (try clear hk)
        (try clear hi)
        (try clear ho0)
        refine hK.out _ _ trivial (fun hHeld => ?_)
        clear hK K
        refine norm_ (a' := ?_) ?_ ?_
        rotate_left
        ·show Act.put _ (some 60) _ = _
         simp only [Act.put, List.setIfInBounds_toArray, List.set_cons_zero, List.set_cons_succ, i64_w, i32_w]
         rfl
        refine pure_ (i := 11) (N := some 49) (v := ?_) (a' := ?_) #[true, true, true, true, true, true, true, true, true, true, true, true, false, false, false, false, false] rfl rfl (any_of HT_.out (by kernel_rfl)) (fun _ _ _ h => h) (Or.inl ⟨by rfl, ?_⟩) ?_ ?_
        rotate_left
        ·intro w'
         go_simp
         with_reducible rfl
        rotate_left
        ·simp only [Act.put, List.setIfInBounds_toArray, List.set_cons_zero, List.set_cons_succ, i64_w, i32_w]
         rfl
        refine pure_ (i := 12) (N := some 61) (v := ?_) (a' := ?_) #[true, true, true, true, true, true, true, true, true, true, true, true, true, false, false, false, false] rfl rfl (any_of HT_.out (by kernel_rfl)) (fun _ _ _ h => h) (Or.inl ⟨by rfl, ?_⟩) ?_ ?_
        rotate_left
        ·intro w'
         go_simp
         with_reducible rfl
        rotate_left
        ·simp only [Act.put, List.setIfInBounds_toArray, List.set_cons_zero, List.set_cons_succ, i64_w, i32_w]
         rfl
        refine pure_ (i := 13) (N := some 62) (v := ?_) (a' := ?_) #[true, true, true, true, true, true, true, true, true, true, true, true, true, true, false, false, false] rfl rfl (any_of HT_.out (by kernel_rfl)) (fun _ _ _ h => h) (Or.inl ⟨by rfl, ?_⟩) ?_ ?_
        rotate_left
        ·intro w'
         go_simp
         with_reducible rfl
        rotate_left
        ·simp only [Act.put, List.setIfInBounds_toArray, List.set_cons_zero, List.set_cons_succ, i64_w, i32_w]
         rfl
        exact norm_ (by simp only [putAll, Act.put, List.setIfInBounds_toArray, List.set_cons_zero, List.set_cons_succ]; first | done | rfl) (hJ1_2_6_8_9_10 (v900, .slice (some adz_v903) y902.length co63, adz_v903, v907, .slice Ao64 y909.length co64, v916) _ ⟨(Kd.R_mono HO896.out (fun _ hk => ⟨hk.1.1, ⟨hk.1.2.1, ⟨hk.2, ⟨hk.1.2.2.1, hk.1.2.2.2⟩⟩⟩⟩)), HO904.out, (Kd.R_mono HO908.out (fun _ hk => ⟨hk.1.1, ⟨hk.1.2.1, ⟨hk.2, ⟨hk.1.2.2.1, hk.1.2.2.2⟩⟩⟩⟩)), (Kd.R_mono HO911.out (fun _ hk => ⟨hk.1.1, ⟨hk.1.2.1, ⟨hk.2, ⟨hk.1.2.2.1, hk.1.2.2.2⟩⟩⟩⟩)), (Kd.R_mono HO917.out (fun _ hk => ⟨hk.1.1.2, ⟨hk.1.2, ⟨hk.2, ⟨hk.1.1.1.2, hk.1.1.1.1.2⟩⟩⟩⟩)), (Kd.R_mono HO_15.out (fun _ hk => ⟨hk.1.1, ⟨hk.1.2.1, ⟨hk.1.2.2.1, ⟨hk.2, hk.1.2.2.2⟩⟩⟩⟩)), (Kd.R_mono HO_5.out (fun _ hk => ⟨hk.1.1, ⟨hk.1.2.1, ⟨hk.1.2.2.1, ⟨hk.2, hk.1.2.2.2⟩⟩⟩⟩)), ⟨_, rfl⟩, BK898.out, HB.out⟩)
       ·skip
        refine box_step ?hg (N := 10) ?hd (cs := #[.int .i64 0, .string (⟨#[]⟩ : ByteArray), .bool false, .slice none 0 0]) (t := 28) ?hr ?_; (case hd => rfl); (case hg => rfl); (case hr => first | (go_simp; done) | (go_simp; rfl))
        intro gb919 hg w64 hbox hb
        have n0_ := Aside0.mk (Kd.R_below HO_5.out hb)
        have n1_ := Aside0.mk (Kd.R_below HO_15.out hb)
        have n2_ := Aside0.mk (Kd.R_below HO896.out hb)
        have n3_ := Aside0.mk (Kd.R_below HO904.out hb)
        have n4_ := Aside0.mk (Kd.R_below HO908.out hb)
        have n5_ := Aside0.mk (Kd.R_below HO911.out hb)
        have n6_ := Aside0.mk (blk_below (g := gb898) (o := .cells #[.int .i64 t891, .string t892, .bool t893, .slice Ao51 t894.length co51] 28 (0, 0)) BK898.out hb)
        have n7_ := Aside0.mk (below_step HB.out hb)
        have n8_ := Aside0.mk (hbox)
        have n9_ := Aside0.mk ((by rw [hg]; exact (below_size HB.out) : w.heap.size ≤ gb919))
        have n10_ := Aside0.mk ((by rw [hg]; exact (below_size HB.out) : w.heap.size ≤ gb919))
        have n11_ := Aside0.mk ((by rw [hg]; exact Nat.ne_of_lt (blk_lt (g := gb898) (o := .cells #[.int .i64 t891, .string t892, .bool t893, .slice Ao51 t894.length co51] 28 (0, 0)) BK898.out) : gb898 ≠ gb919))
        have n12_ := Aside0.mk ((by rw [hg]; exact Nat.ne_of_gt (blk_lt (g := gb898) (o := .cells #[.int .i64 t891, .string t892, .bool t893, .slice Ao51 t894.length co51] 28 (0, 0)) BK898.out) : gb919 ≠ gb898))
        clear HO_5
        clear HO_15
        clear HO896
        clear HO904
        clear HO908
        clear HO911
        clear BK898
        clear HB
        have HO_5 := n0_
        have HO_15 := n1_
        have HO896 := n2_
        have HO904 := n3_
        have HO908 := n4_
        have HO911 := n5_
        have BK898 := n6_
        have HB := n7_
        have BK919 := n8_
        have GW919 := n9_
        have GE919 := n10_
        have NB898_919 := n11_
        have NB919_898 := n12_
        clear n0_ n1_ n2_ n3_ n4_ n5_ n6_ n7_ n8_ n9_ n10_ n11_ n12_
        clear hb hbox hg
        refine hK.out _ _ trivial (fun hHeld => ?_)
        clear hK K
        refine norm_ (a' := ?_) ?_ ?_
        rotate_left
        ·show Act.put _ (some 10) _ = _
         simp only [Act.put, List.setIfInBounds_toArray, List.set_cons_zero, List.set_cons_succ, i64_w, i32_w]
         rfl
        exact norm_ (by simp only [putAll, Act.put, List.setIfInBounds_toArray, List.set_cons_zero, List.set_cons_succ]; first | done | rfl) (hJ1_2_6_8_9_14 (v900, .slice (some adz_v903) y902.length co63, adz_v903, v907, .slice Ao64 y909.length co64, gb919) _ ⟨HO896.out, HO904.out, HO908.out, HO911.out, HO_15.out, HO_5.out, ⟨_, rfl⟩, BK898.out, BK919.out, GW919.out, GE919.out, NB898_919.out, NB919_898.out, HB.out⟩)
     ·skip
      rintro ⟨v900, v903, adz_v903, v907, v910, gb919⟩ w63 ⟨h0_, h1_, h2_, h3_, h4_, h5_, h6_, h7_, h8_, h9_, h10_, h11_, h12_, h13_⟩
      have n0_ : Aside0 (Kd.R k43 43 w63 w.heap.size (fun k_ => nb v907 k_ ∧ nb v910 k_ ∧ nb (.slice Ao8 t880.length co8) k_ ∧ nb (.slice Ao47 x5_1.length co47) k_) (.slice Ao51 t894.length co51) t894) := ⟨h0_⟩
      have n1_ : Aside0 (Kd.R (Kd.int .u16) 40 w63 w.heap.size (fun _ => True) v903 y902) := ⟨h1_⟩
      have n2_ : Aside0 (Kd.R k43 43 w63 w.heap.size (fun k_ => nb (.slice Ao51 t894.length co51) k_ ∧ nb v910 k_ ∧ nb (.slice Ao8 t880.length co8) k_ ∧ nb (.slice Ao47 x5_1.length co47) k_) v907 y906) := ⟨h2_⟩
      have n3_ : Aside0 (Kd.R k43 43 w63 w.heap.size (fun k_ => nb (.slice Ao51 t894.length co51) k_ ∧ nb v907 k_ ∧ nb (.slice Ao8 t880.length co8) k_ ∧ nb (.slice Ao47 x5_1.length co47) k_) v910 y909) := ⟨h3_⟩
      have n4_ : Aside0 (Kd.R k43 43 w63 w.heap.size (fun k_ => nb (.slice Ao51 t894.length co51) k_ ∧ nb v907 k_ ∧ nb v910 k_ ∧ nb (.slice Ao47 x5_1.length co47) k_) (.slice Ao8 t880.length co8) t880) := ⟨h4_⟩
      have n5_ : Aside0 (Kd.R k43 43 w63 w.heap.size (fun k_ => nb (.slice Ao51 t894.length co51) k_ ∧ nb v907 k_ ∧ nb v910 k_ ∧ nb (.slice Ao8 t880.length co8) k_) (.slice Ao47 x5_1.length co47) x5_1) := ⟨h5_⟩
      have n6_ : Aside0 (∃ c_, (v903 : Value) = .slice (some adz_v903) y902.length c_) := ⟨h6_⟩
      have n7_ : Aside0 (w63.heap[gb898]? = some (.cells #[.int .i64 t891, .string t892, .bool t893, .slice Ao51 t894.length co51] 28 (0, 0))) := ⟨h7_⟩
      have n8_ : Aside0 (w63.heap[gb919]? = some (.cells #[.int .i64 0, .string (⟨#[]⟩ : ByteArray), .bool false, .slice none 0 0] 28 (0, 0))) := ⟨h8_⟩
      have n9_ : Aside0 (w.heap.size ≤ gb919) := ⟨h9_⟩
      have n10_ : Aside0 (w.heap.size ≤ gb919) := ⟨h10_⟩
      have n11_ : Aside0 (gb898 ≠ gb919) := ⟨h11_⟩
      have n12_ : Aside0 (gb919 ≠ gb898) := ⟨h12_⟩
      have n13_ : Aside0 (Below w.heap.size w w63) := ⟨h13_⟩
      clear HO_5
      clear HO_15
      clear HO896
      clear BK898
      clear HB
      clear h0_ h1_ h2_ h3_ h4_ h5_ h6_ h7_ h8_ h9_ h10_ h11_ h12_ h13_
      have HO896 := n0_
      have HO904 := n1_
      have HO908 := n2_
      have HO911 := n3_
      have HO_15 := n4_
      have HO_5 := n5_
      have HA_HO904 := n6_
      have BK898 := n7_
      have BK919 := n8_
      have GW919 := n9_
      have GE919 := n10_
      have NB898_919 := n11_
      have NB919_898 := n12_
      have HB := n13_
      clear n0_ n1_ n2_ n3_ n4_ n5_ n6_ n7_ n8_ n9_ n10_ n11_ n12_ n13_
      have hHeld := trivial
      obtain ⟨co64, eo64⟩ := HA_HO904.out
      clear HA_HO904
      subst eo64
      obtain ⟨Ao65, co65, eo65⟩ := Kd.R_slice HO911.out
      (first | subst eo65 | (injection eo65 with f1_ f2_ f3_; have f4_ := f1_.symm; have f5_ := f3_.symm; clear f1_ f2_ f3_; subst f4_; subst f5_))
      refine norm_ (a' := ?_) ?_ ?_
      rotate_left
      ·simp only [putAll, Act.put, List.setIfInBounds_toArray, List.set_cons_zero, List.set_cons_succ]
       rfl
      refine one_ (i := 10) (N := some 60) #[true, true, true, true, true, true, true, true, true, true, true, false, false, false, true, false, false] rfl rfl (one_of HT_.out (by kernel_rfl)) (by decide) (fun K hK => ?_)
      refine goes_ Try.func19 (by kernel_rfl) rfl #[.slice Ao65 y909.length co65] (by rfl) rfl rfl (by (try simp only [List.map_toArray, List.map_cons, List.map_nil]); first | done | rfl | (simp only [List.length_drop, List.length_take]; rfl)) ?_
      with_reducible refine (action_Of.calls k1 _ _ y909 t912 t913 t914 t915 false _ ?side1 ?side2 A40.out).mono ?_
      (case side1 => repeat (first | exact (Kd.R_reads' HO911.out).2.2 | (with_reducible refine Kd.C_alloc ?_ _) | (with_reducible refine Kd.C_drewN ?_ _) | (with_reducible refine Kd.C_drew ?_)))
      (case side2 => exact (Kd.R_reads' HO911.out).2.1)
      rintro e w66 ⟨v916, rfl, ho0, hb⟩
      refine ⟨_, rfl, ?_⟩
      have n0_ := Aside0.mk (Kd.R_elder' HO_5.out (Kd.R_base ho0) hb)
      have n1_ := Aside0.mk (Kd.R_elder' HO_15.out (Kd.R_base ho0) hb)
      have n2_ := Aside0.mk (Kd.R_elder' HO896.out (Kd.R_base ho0) hb)
      have n3_ := Aside0.mk (Kd.R_below HO904.out hb)
      have n4_ := Aside0.mk (Kd.R_elder' HO908.out (Kd.R_base ho0) hb)
      have n5_ := Aside0.mk (Kd.R_elder' HO911.out (Kd.R_base ho0) hb)
      have n6_ := Aside0.mk (Kd.R_lower (Kd.R_new' (Kd.R_new' (Kd.R_new' (Kd.R_new' (Kd.R_new' ho0 (Kd.R_lt HO_5.out)) (Kd.R_lt HO_15.out)) (Kd.R_lt HO896.out)) (Kd.R_lt HO908.out)) (Kd.R_lt HO911.out)) (below_size HB.out))
      have n7_ := Aside0.mk (blk_below (g := gb898) (o := .cells #[.int .i64 t891, .string t892, .bool t893, .slice Ao51 t894.length co51] 28 (0, 0)) BK898.out hb)
      have n8_ := Aside0.mk (blk_below (g := gb919) (o := .cells #[.int .i64 0, .string (⟨#[]⟩ : ByteArray), .bool false, .slice none 0 0] 28 (0, 0)) BK919.out hb)
      have n9_ := Aside0.mk (below_step HB.out hb)
      clear HO_5
      clear HO_15
      clear HO896
      clear HO904
      clear HO908
      clear HO911
      clear BK898
      clear BK919
      clear HB
      have HO_5 := n0_
      have HO_15 := n1_
      have HO896 := n2_
      have HO904 := n3_
      have HO908 := n4_
      have HO911 := n5_
      have HO917 := n6_
      have BK898 := n7_
      have BK919 := n8_
      have HB := n9_
      clear n0_ n1_ n2_ n3_ n4_ n5_ n6_ n7_ n8_ n9_
      (try clear hb)
      (try clear hb2)
      (try clear hk)
      (try clear hi)
      (try clear ho0)
      refine hK.out _ _ trivial (fun hHeld => ?_)
      clear hK K
      refine norm_ (a' := ?_) ?_ ?_
      rotate_left
      ·show Act.put _ (some 60) _ = _
       simp only [Act.put, List.setIfInBounds_toArray, List.set_cons_zero, List.set_cons_succ, i64_w, i32_w]
       rfl
      refine pure_ (i := 11) (N := some 49) (v := ?_) (a' := ?_) #[true, true, true, true, true, true, true, true, true, true, true, true, false, false, true, false, false] rfl rfl (any_of HT_.out (by kernel_rfl)) (fun _ _ _ h => h) (Or.inl ⟨by rfl, ?_⟩) ?_ ?_
      rotate_left
      ·intro w'
       go_simp
       with_reducible rfl
      rotate_left
      ·simp only [Act.put, List.setIfInBounds_toArray, List.set_cons_zero, List.set_cons_succ, i64_w, i32_w]
       rfl
      refine pure_ (i := 12) (N := some 61) (v := ?_) (a' := ?_) #[true, true, true, true, true, true, true, true, true, true, true, true, true, false, true, false, false] rfl rfl (any_of HT_.out (by kernel_rfl)) (fun _ _ _ h => h) (Or.inl ⟨by rfl, ?_⟩) ?_ ?_
      rotate_left
      ·intro w'
       go_simp
       with_reducible rfl
      rotate_left
      ·simp only [Act.put, List.setIfInBounds_toArray, List.set_cons_zero, List.set_cons_succ, i64_w, i32_w]
       rfl
      refine pure_ (i := 13) (N := some 62) (v := ?_) (a' := ?_) #[true, true, true, true, true, true, true, true, true, true, true, true, true, true, true, false, false] rfl rfl (any_of HT_.out (by kernel_rfl)) (fun _ _ _ h => h) (Or.inl ⟨by rfl, ?_⟩) ?_ ?_
      rotate_left
      ·intro w'
       go_simp
       with_reducible rfl
      rotate_left
      ·simp only [Act.put, List.setIfInBounds_toArray, List.set_cons_zero, List.set_cons_succ, i64_w, i32_w]
       rfl
      exact norm_ (by simp only [putAll, Act.put, List.setIfInBounds_toArray, List.set_cons_zero, List.set_cons_succ]; first | done | rfl) (hJ1_2_6_8_9_10_14 (v900, .slice (some adz_v903) y902.length co64, adz_v903, v907, .slice Ao65 y909.length co65, v916, gb919) _ ⟨(Kd.R_mono HO896.out (fun _ hk => ⟨hk.1.1, ⟨hk.1.2.1, ⟨hk.2, ⟨hk.1.2.2.1, hk.1.2.2.2⟩⟩⟩⟩)), HO904.out, (Kd.R_mono HO908.out (fun _ hk => ⟨hk.1.1, ⟨hk.1.2.1, ⟨hk.2, ⟨hk.1.2.2.1, hk.1.2.2.2⟩⟩⟩⟩)), (Kd.R_mono HO911.out (fun _ hk => ⟨hk.1.1, ⟨hk.1.2.1, ⟨hk.2, ⟨hk.1.2.2.1, hk.1.2.2.2⟩⟩⟩⟩)), (Kd.R_mono HO917.out (fun _ hk => ⟨hk.1.1.2, ⟨hk.1.2, ⟨hk.2, ⟨hk.1.1.1.2, hk.1.1.1.1.2⟩⟩⟩⟩)), (Kd.R_mono HO_15.out (fun _ hk => ⟨hk.1.1, ⟨hk.1.2.1, ⟨hk.1.2.2.1, ⟨hk.2, hk.1.2.2.2⟩⟩⟩⟩)), (Kd.R_mono HO_5.out (fun _ hk => ⟨hk.1.1, ⟨hk.1.2.1, ⟨hk.1.2.2.1, ⟨hk.2, hk.1.2.2.2⟩⟩⟩⟩)), ⟨_, rfl⟩, BK898.out, BK919.out, GW919.out, GE919.out, NB898_919.out, NB919_898.out, HB.out⟩)
    ·skip
     rintro ⟨v900, v903, adz_v903, v907, v910, v916⟩ w64 ⟨h0_, h1_, h2_, h3_, h4_, h5_, h6_, h7_, h8_, h9_⟩
     have n0_ : Aside0 (Kd.R k43 43 w64 w.heap.size (fun k_ => nb v907 k_ ∧ nb v910 k_ ∧ nb v916 k_ ∧ nb (.slice Ao8 t880.length co8) k_ ∧ nb (.slice Ao47 x5_1.length co47) k_) (.slice Ao51 t894.length co51) t894) := ⟨h0_⟩
     have n1_ : Aside0 (Kd.R (Kd.int .u16) 40 w64 w.heap.size (fun _ => True) v903 y902) := ⟨h1_⟩
     have n2_ : Aside0 (Kd.R k43 43 w64 w.heap.size (fun k_ => nb (.slice Ao51 t894.length co51) k_ ∧ nb v910 k_ ∧ nb v916 k_ ∧ nb (.slice Ao8 t880.length co8) k_ ∧ nb (.slice Ao47 x5_1.length co47) k_) v907 y906) := ⟨h2_⟩
     have n3_ : Aside0 (Kd.R k43 43 w64 w.heap.size (fun k_ => nb (.slice Ao51 t894.length co51) k_ ∧ nb v907 k_ ∧ nb v916 k_ ∧ nb (.slice Ao8 t880.length co8) k_ ∧ nb (.slice Ao47 x5_1.length co47) k_) v910 y909) := ⟨h3_⟩
     have n4_ : Aside0 (Kd.R k43 43 w64 w.heap.size (fun k_ => nb (.slice Ao51 t894.length co51) k_ ∧ nb v907 k_ ∧ nb v910 k_ ∧ nb (.slice Ao8 t880.length co8) k_ ∧ nb (.slice Ao47 x5_1.length co47) k_) v916 t915) := ⟨h4_⟩
     have n5_ : Aside0 (Kd.R k43 43 w64 w.heap.size (fun k_ => nb (.slice Ao51 t894.length co51) k_ ∧ nb v907 k_ ∧ nb v910 k_ ∧ nb v916 k_ ∧ nb (.slice Ao47 x5_1.length co47) k_) (.slice Ao8 t880.length co8) t880) := ⟨h5_⟩
     have n6_ : Aside0 (Kd.R k43 43 w64 w.heap.size (fun k_ => nb (.slice Ao51 t894.length co51) k_ ∧ nb v907 k_ ∧ nb v910 k_ ∧ nb v916 k_ ∧ nb (.slice Ao8 t880.length co8) k_) (.slice Ao47 x5_1.length co47) x5_1) := ⟨h6_⟩
     have n7_ : Aside0 (∃ c_, (v903 : Value) = .slice (some adz_v903) y902.length c_) := ⟨h7_⟩
     have n8_ : Aside0 (w64.heap[gb898]? = some (.cells #[.int .i64 t891, .string t892, .bool t893, .slice Ao51 t894.length co51] 28 (0, 0))) := ⟨h8_⟩
     have n9_ : Aside0 (Below w.heap.size w w64) := ⟨h9_⟩
     clear HO_5
     clear HO_15
     clear HO896
     clear BK898
     clear HB
     clear h0_ h1_ h2_ h3_ h4_ h5_ h6_ h7_ h8_ h9_
     have HO896 := n0_
     have HO904 := n1_
     have HO908 := n2_
     have HO911 := n3_
     have HO917 := n4_
     have HO_15 := n5_
     have HO_5 := n6_
     have HA_HO904 := n7_
     have BK898 := n8_
     have HB := n9_
     clear n0_ n1_ n2_ n3_ n4_ n5_ n6_ n7_ n8_ n9_
     have hHeld := trivial
     obtain ⟨co65, eo65⟩ := HA_HO904.out
     clear HA_HO904
     subst eo65
     refine norm_ (a' := ?_) ?_ ?_
     rotate_left
     ·simp only [putAll, Act.put, List.setIfInBounds_toArray, List.set_cons_zero, List.set_cons_succ]
      rfl
     refine one_ (i := 14) (N := some 10) #[true, true, true, true, true, true, true, true, true, true, true, true, true, true, true, false, false] rfl rfl (one_of HT_.out (by kernel_rfl)) (by decide) (fun K hK => ?_)
     refine box_step ?hg (N := 10) ?hd (cs := #[.int .i64 0, .string (⟨#[]⟩ : ByteArray), .bool false, .slice none 0 0]) (t := 28) ?hr ?_; (case hd => rfl); (case hg => rfl); (case hr => first | (go_simp; done) | (go_simp; rfl))
     intro gb919 hg w66 hbox hb
     have n0_ := Aside0.mk (Kd.R_below HO_5.out hb)
     have n1_ := Aside0.mk (Kd.R_below HO_15.out hb)
     have n2_ := Aside0.mk (Kd.R_below HO896.out hb)
     have n3_ := Aside0.mk (Kd.R_below HO904.out hb)
     have n4_ := Aside0.mk (Kd.R_below HO908.out hb)
     have n5_ := Aside0.mk (Kd.R_below HO911.out hb)
     have n6_ := Aside0.mk (Kd.R_below HO917.out hb)
     have n7_ := Aside0.mk (blk_below (g := gb898) (o := .cells #[.int .i64 t891, .string t892, .bool t893, .slice Ao51 t894.length co51] 28 (0, 0)) BK898.out hb)
     have n8_ := Aside0.mk (below_step HB.out hb)
     have n9_ := Aside0.mk (hbox)
     have n10_ := Aside0.mk ((by rw [hg]; exact (below_size HB.out) : w.heap.size ≤ gb919))
     have n11_ := Aside0.mk ((by rw [hg]; exact (below_size HB.out) : w.heap.size ≤ gb919))
     have n12_ := Aside0.mk ((by rw [hg]; exact Nat.ne_of_lt (blk_lt (g := gb898) (o := .cells #[.int .i64 t891, .string t892, .bool t893, .slice Ao51 t894.length co51] 28 (0, 0)) BK898.out) : gb898 ≠ gb919))
     have n13_ := Aside0.mk ((by rw [hg]; exact Nat.ne_of_gt (blk_lt (g := gb898) (o := .cells #[.int .i64 t891, .string t892, .bool t893, .slice Ao51 t894.length co51] 28 (0, 0)) BK898.out) : gb919 ≠ gb898))
     clear HO_5
     clear HO_15
     clear HO896
     clear HO904
     clear HO908
     clear HO911
     clear HO917
     clear BK898
     clear HB
     have HO_5 := n0_
     have HO_15 := n1_
     have HO896 := n2_
     have HO904 := n3_
     have HO908 := n4_
     have HO911 := n5_
     have HO917 := n6_
     have BK898 := n7_
     have HB := n8_
     have BK919 := n9_
     have GW919 := n10_
     have GE919 := n11_
     have NB898_919 := n12_
     have NB919_898 := n13_
     clear n0_ n1_ n2_ n3_ n4_ n5_ n6_ n7_ n8_ n9_ n10_ n11_ n12_ n13_
     clear hb hbox hg
     refine hK.out _ _ trivial (fun hHeld => ?_)
     clear hK K
     refine norm_ (a' := ?_) ?_ ?_
     rotate_left
     ·show Act.put _ (some 10) _ = _
      simp only [Act.put, List.setIfInBounds_toArray, List.set_cons_zero, List.set_cons_succ, i64_w, i32_w]
      rfl
     exact norm_ (by simp only [putAll, Act.put, List.setIfInBounds_toArray, List.set_cons_zero, List.set_cons_succ]; first | done | rfl) (hJ1_2_6_8_9_10_14 (v900, .slice (some adz_v903) y902.length co65, adz_v903, v907, v910, v916, gb919) _ ⟨HO896.out, HO904.out, HO908.out, HO911.out, HO917.out, HO_15.out, HO_5.out, ⟨_, rfl⟩, BK898.out, BK919.out, GW919.out, GE919.out, NB898_919.out, NB919_898.out, HB.out⟩)
   rintro ⟨v900, v903, adz_v903, v907, v910, v916, gb919⟩ w65 ⟨h0_, h1_, h2_, h3_, h4_, h5_, h6_, h7_, h8_, h9_, h10_, h11_, h12_, h13_, h14_⟩
   have n0_ : Aside0 (Kd.R k43 43 w65 w.heap.size (fun k_ => nb v907 k_ ∧ nb v910 k_ ∧ nb v916 k_ ∧ nb (.slice Ao8 t880.length co8) k_ ∧ nb (.slice Ao47 x5_1.length co47) k_) (.slice Ao51 t894.length co51) t894) := ⟨h0_⟩
   have n1_ : Aside0 (Kd.R (Kd.int .u16) 40 w65 w.heap.size (fun _ => True) v903 y902) := ⟨h1_⟩
   have n2_ : Aside0 (Kd.R k43 43 w65 w.heap.size (fun k_ => nb (.slice Ao51 t894.length co51) k_ ∧ nb v910 k_ ∧ nb v916 k_ ∧ nb (.slice Ao8 t880.length co8) k_ ∧ nb (.slice Ao47 x5_1.length co47) k_) v907 y906) := ⟨h2_⟩
   have n3_ : Aside0 (Kd.R k43 43 w65 w.heap.size (fun k_ => nb (.slice Ao51 t894.length co51) k_ ∧ nb v907 k_ ∧ nb v916 k_ ∧ nb (.slice Ao8 t880.length co8) k_ ∧ nb (.slice Ao47 x5_1.length co47) k_) v910 y909) := ⟨h3_⟩
   have n4_ : Aside0 (Kd.R k43 43 w65 w.heap.size (fun k_ => nb (.slice Ao51 t894.length co51) k_ ∧ nb v907 k_ ∧ nb v910 k_ ∧ nb (.slice Ao8 t880.length co8) k_ ∧ nb (.slice Ao47 x5_1.length co47) k_) v916 t915) := ⟨h4_⟩
   have n5_ : Aside0 (Kd.R k43 43 w65 w.heap.size (fun k_ => nb (.slice Ao51 t894.length co51) k_ ∧ nb v907 k_ ∧ nb v910 k_ ∧ nb v916 k_ ∧ nb (.slice Ao47 x5_1.length co47) k_) (.slice Ao8 t880.length co8) t880) := ⟨h5_⟩
   have n6_ : Aside0 (Kd.R k43 43 w65 w.heap.size (fun k_ => nb (.slice Ao51 t894.length co51) k_ ∧ nb v907 k_ ∧ nb v910 k_ ∧ nb v916 k_ ∧ nb (.slice Ao8 t880.length co8) k_) (.slice Ao47 x5_1.length co47) x5_1) := ⟨h6_⟩
   have n7_ : Aside0 (∃ c_, (v903 : Value) = .slice (some adz_v903) y902.length c_) := ⟨h7_⟩
   have n8_ : Aside0 (w65.heap[gb898]? = some (.cells #[.int .i64 t891, .string t892, .bool t893, .slice Ao51 t894.length co51] 28 (0, 0))) := ⟨h8_⟩
   have n9_ : Aside0 (w65.heap[gb919]? = some (.cells #[.int .i64 0, .string (⟨#[]⟩ : ByteArray), .bool false, .slice none 0 0] 28 (0, 0))) := ⟨h9_⟩
   have n10_ : Aside0 (w.heap.size ≤ gb919) := ⟨h10_⟩
   have n11_ : Aside0 (w.heap.size ≤ gb919) := ⟨h11_⟩
   have n12_ : Aside0 (gb898 ≠ gb919) := ⟨h12_⟩
   have n13_ : Aside0 (gb919 ≠ gb898) := ⟨h13_⟩
   have n14_ : Aside0 (Below w.heap.size w w65) := ⟨h14_⟩
   clear HO_5
   clear HO_15
   clear HO896
   clear BK898
   clear HB
   clear h0_ h1_ h2_ h3_ h4_ h5_ h6_ h7_ h8_ h9_ h10_ h11_ h12_ h13_ h14_
   have HO896 := n0_
   have HO904 := n1_
   have HO908 := n2_
   have HO911 := n3_
   have HO917 := n4_
   have HO_15 := n5_
   have HO_5 := n6_
   have HA_HO904 := n7_
   have BK898 := n8_
   have BK919 := n9_
   have GW919 := n10_
   have GE919 := n11_
   have NB898_919 := n12_
   have NB919_898 := n13_
   have HB := n14_
   clear n0_ n1_ n2_ n3_ n4_ n5_ n6_ n7_ n8_ n9_ n10_ n11_ n12_ n13_ n14_
   have hHeld := trivial
   obtain ⟨co66, eo66⟩ := HA_HO904.out
   clear HA_HO904
   subst eo66
   obtain ⟨Ao70, co70, eo70⟩ := Kd.R_slice HO917.out
   (first | subst eo70 | (injection eo70 with f1_ f2_ f3_; have f4_ := f1_.symm; have f5_ := f3_.symm; clear f1_ f2_ f3_; subst f4_; subst f5_))
   refine norm_ (a' := ?_) ?_ ?_
   rotate_left
   ·simp only [putAll, Act.put, List.setIfInBounds_toArray, List.set_cons_zero, List.set_cons_succ]
    rfl
   refine one_ (i := 15) (N := none) #[true, true, true, true, true, true, true, true, true, true, true, true, true, true, true, true, false] rfl rfl (one_of HT_.out (by kernel_rfl)) (by decide) (fun K hK => ?_)
   have hs67 : w65.cell? ⟨gb919, 0, none⟩ = some (.int .i64 0) := (blk_cell BK919.out 0).trans rfl
   have hfs67 := blk_frozen BK919.out 0
   have hns67_0 := NB898_919.out
   have hms67_0 := NB919_898.out
   have hs68 : w65.cell? ⟨gb919, 1, none⟩ = some (.string (⟨#[]⟩ : ByteArray)) := (blk_cell BK919.out 1).trans rfl
   have hfs68 := blk_frozen BK919.out 1
   have hns68_0 := NB898_919.out
   have hms68_0 := NB919_898.out
   have hs69 : w65.cell? ⟨gb919, 2, none⟩ = some (.bool false) := (blk_cell BK919.out 2).trans rfl
   have hfs69 := blk_frozen BK919.out 2
   have hns69_0 := NB898_919.out
   have hms69_0 := NB919_898.out
   have hs71 : w65.cell? ⟨gb919, 3, none⟩ = some (.slice none 0 0) := (blk_cell BK919.out 3).trans rfl
   have hfs71 := blk_frozen BK919.out 3
   have hns71_0 := NB898_919.out
   have hms71_0 := NB919_898.out
   refine skip_ (w1 := ?_) (by rfl) rfl ?_ ?_
   rotate_left
   ·go_simp
    rfl
   refine hK.out _ _ trivial (fun hHeld => ?_)
   clear hK K
   refine pure_ (i := 16) (N := some 11) (v := ?_) (a' := ?_) #[true, true, true, true, true, true, true, true, true, true, true, true, true, true, true, true, true] rfl rfl (any_of HT_.out (by kernel_rfl)) (fun _ _ _ h => h) (Or.inl ⟨by rfl, ?_⟩) ?_ ?_
   rotate_left
   ·intro w'
    go_simp
    with_reducible rfl
   rotate_left
   ·simp only [Act.put, List.setIfInBounds_toArray, List.set_cons_zero, List.set_cons_succ, i64_w, i32_w]
    rfl
   refine done_ (done_of HT_.out (by kernel_rfl)) ?_
   have hnb72 := NB898_919.out
   have hnc72 := NB919_898.out
   have hcz73_0 : w65.cell? ⟨gb898, 0, none⟩ = some (.int .i64 t891) := (blk_cell BK898.out 0).trans rfl
   have hcz73_1 : w65.cell? ⟨gb898, 1, none⟩ = some (.string t892) := (blk_cell BK898.out 1).trans rfl
   have hcz73_2 : w65.cell? ⟨gb898, 2, none⟩ = some (.bool t893) := (blk_cell BK898.out 2).trans rfl
   have hcz73_3 : w65.cell? ⟨gb898, 3, none⟩ = some (.slice Ao51 t894.length co51) := (blk_cell BK898.out 3).trans rfl
   have hfz73_0 := blk_frozen BK898.out 0
   have hfz73_1 := blk_frozen BK898.out 1
   have hfz73_2 := blk_frozen BK898.out 2
   have hfz73_3 := blk_frozen BK898.out 3
   try go_wp2_with (first | (go_at_call 22; (with_reducible refine (bolterlaw05_SameRecords.calls k1 _ _ t894 _ _ x5_1 true _ ?side1 ?side2 ?side3 ?side4 A43.out).mono ?_); (case side1 => refine (Kd.R_reads' (e := 43) (base := w.heap.size) (ok := fun k_ => (nb v907 k_ ∧ (nb v910 k_ ∧ (nb (.slice Ao70 t915.length co70) k_ ∧ (nb (.slice Ao8 t880.length co8) k_ ∧ nb (.slice Ao47 x5_1.length co47) k_))))) (n := t894.length) (c := co51) ?_).2.2; exact (by (with_reducible repeat (first | apply Kd.R_alloc | apply Kd.R_drewN | apply Kd.R_drew)); exact (Kd.R_mono (Kd.R_far (p := ⟨gb919, 3, none⟩) (Kd.R_far (p := ⟨gb919, 2, none⟩) (Kd.R_far (p := ⟨gb919, 1, none⟩) (Kd.R_far (p := ⟨gb919, 0, none⟩) (Kd.R_types HO896.out BK919.out (by decide)) (fun _ hk => hk.2) (.int .i64 t912)) (fun _ hk => hk.2) (.string t913)) (fun _ hk => hk.2) (.bool t914)) (fun _ hk => hk.2) (.slice Ao70 t915.length co70)) (fun _ h_ => h_.1)))); (case side2 => exact (Kd.R_reads' HO896.out).2.1); (case side3 => refine (Kd.R_reads' (e := 43) (base := w.heap.size) (ok := fun k_ => (nb (.slice Ao51 t894.length co51) k_ ∧ (nb v907 k_ ∧ (nb v910 k_ ∧ (nb (.slice Ao70 t915.length co70) k_ ∧ nb (.slice Ao8 t880.length co8) k_))))) (n := x5_1.length) (c := co47) ?_).2.2; exact (by (with_reducible repeat (first | apply Kd.R_alloc | apply Kd.R_drewN | apply Kd.R_drew)); exact (Kd.R_mono (Kd.R_far (p := ⟨gb919, 3, none⟩) (Kd.R_far (p := ⟨gb919, 2, none⟩) (Kd.R_far (p := ⟨gb919, 1, none⟩) (Kd.R_far (p := ⟨gb919, 0, none⟩) (Kd.R_types HO_5.out BK919.out (by decide)) (fun _ hk => hk.2) (.int .i64 t912)) (fun _ hk => hk.2) (.string t913)) (fun _ hk => hk.2) (.bool t914)) (fun _ hk => hk.2) (.slice Ao70 t915.length co70)) (fun _ h_ => h_.1)))); (case side4 => exact (Kd.R_reads' HO_5.out).2.1); rintro e w' ⟨rfl, ⟨nd, rfl⟩⟩; have hcz74_0 : w65.cell? ⟨gb919, 0, none⟩ = some (.int .i64 0) := (blk_cell BK919.out 0).trans rfl; have hcz74_1 : w65.cell? ⟨gb919, 1, none⟩ = some (.string (⟨#[]⟩ : ByteArray)) := (blk_cell BK919.out 1).trans rfl; have hcz74_2 : w65.cell? ⟨gb919, 2, none⟩ = some (.bool false) := (blk_cell BK919.out 2).trans rfl; have hcz74_3 : w65.cell? ⟨gb919, 3, none⟩ = some (.slice none 0 0) := (blk_cell BK919.out 3).trans rfl; have hfz74_0 := blk_frozen BK919.out 0; have hfz74_1 := blk_frozen BK919.out 1; have hfz74_2 := blk_frozen BK919.out 2; have hfz74_3 := blk_frozen BK919.out 3) | (go_at_call 20; (refine (action_Same.calls k1 t912 t913 t914 _ _ t915 0 (⟨#[]⟩ : ByteArray) false _ _ ([] : List (S43)) t921 _ ?side1 ?side2 ?side3 ?side4 A46.out).mono ?_); (case side1 => refine (Kd.R_reads' (e := 43) (base := w.heap.size) (ok := fun k_ => (nb (.slice Ao51 t894.length co51) k_ ∧ (nb v907 k_ ∧ (nb v910 k_ ∧ (nb (.slice Ao8 t880.length co8) k_ ∧ nb (.slice Ao47 x5_1.length co47) k_))))) (n := t915.length) (c := co70) ?_).2.2; exact (by (with_reducible repeat (first | apply Kd.R_alloc | apply Kd.R_drewN | apply Kd.R_drew)); exact (Kd.R_mono (Kd.R_far (p := ⟨gb919, 3, none⟩) (Kd.R_far (p := ⟨gb919, 2, none⟩) (Kd.R_far (p := ⟨gb919, 1, none⟩) (Kd.R_far (p := ⟨gb919, 0, none⟩) (Kd.R_types HO917.out BK919.out (by decide)) (fun _ hk => hk.2) (.int .i64 t912)) (fun _ hk => hk.2) (.string t913)) (fun _ hk => hk.2) (.bool t914)) (fun _ hk => hk.2) (.slice Ao70 t915.length co70)) (fun _ h_ => h_.1)))); (case side2 => exact (Kd.R_reads' HO917.out).2.1); (case side3 => exact Kd.C_nil _ _); (case side4 => exact Nat.le_refl _); rintro e w75 ⟨rfl, hb⟩; have n0_ := Aside0.mk (Kd.R_below (by (with_reducible repeat (first | apply Kd.R_alloc | apply Kd.R_drewN | apply Kd.R_drew)); exact (Kd.R_mono (Kd.R_far (p := ⟨gb919, 3, none⟩) (Kd.R_far (p := ⟨gb919, 2, none⟩) (Kd.R_far (p := ⟨gb919, 1, none⟩) (Kd.R_far (p := ⟨gb919, 0, none⟩) (Kd.R_types HO_5.out BK919.out (by decide)) (fun _ hk => hk.2) (.int .i64 t912)) (fun _ hk => hk.2) (.string t913)) (fun _ hk => hk.2) (.bool t914)) (fun _ hk => hk.2) (.slice Ao70 t915.length co70)) (fun _ h_ => h_.1))) hb); have n1_ := Aside0.mk (Kd.R_below (by (with_reducible repeat (first | apply Kd.R_alloc | apply Kd.R_drewN | apply Kd.R_drew)); exact (Kd.R_mono (Kd.R_far (p := ⟨gb919, 3, none⟩) (Kd.R_far (p := ⟨gb919, 2, none⟩) (Kd.R_far (p := ⟨gb919, 1, none⟩) (Kd.R_far (p := ⟨gb919, 0, none⟩) (Kd.R_types HO_15.out BK919.out (by decide)) (fun _ hk => hk.2) (.int .i64 t912)) (fun _ hk => hk.2) (.string t913)) (fun _ hk => hk.2) (.bool t914)) (fun _ hk => hk.2) (.slice Ao70 t915.length co70)) (fun _ h_ => h_.1))) hb); have n2_ := Aside0.mk (Kd.R_below (by (with_reducible repeat (first | apply Kd.R_alloc | apply Kd.R_drewN | apply Kd.R_drew)); exact (Kd.R_mono (Kd.R_far (p := ⟨gb919, 3, none⟩) (Kd.R_far (p := ⟨gb919, 2, none⟩) (Kd.R_far (p := ⟨gb919, 1, none⟩) (Kd.R_far (p := ⟨gb919, 0, none⟩) (Kd.R_types HO896.out BK919.out (by decide)) (fun _ hk => hk.2) (.int .i64 t912)) (fun _ hk => hk.2) (.string t913)) (fun _ hk => hk.2) (.bool t914)) (fun _ hk => hk.2) (.slice Ao70 t915.length co70)) (fun _ h_ => h_.1))) hb); have n3_ := Aside0.mk (Kd.R_below (by (with_reducible repeat (first | apply Kd.R_alloc | apply Kd.R_drewN | apply Kd.R_drew)); exact (Kd.R_mono (Kd.R_far (p := ⟨gb919, 3, none⟩) (Kd.R_far (p := ⟨gb919, 2, none⟩) (Kd.R_far (p := ⟨gb919, 1, none⟩) (Kd.R_far (p := ⟨gb919, 0, none⟩) (Kd.R_types HO904.out BK919.out (by decide)) (fun _ hk => hk.2) (.int .i64 t912)) (fun _ hk => hk.2) (.string t913)) (fun _ hk => hk.2) (.bool t914)) (fun _ hk => hk.2) (.slice Ao70 t915.length co70)) (fun _ h_ => h_.1))) hb); have n4_ := Aside0.mk (Kd.R_below (by (with_reducible repeat (first | apply Kd.R_alloc | apply Kd.R_drewN | apply Kd.R_drew)); exact (Kd.R_mono (Kd.R_far (p := ⟨gb919, 3, none⟩) (Kd.R_far (p := ⟨gb919, 2, none⟩) (Kd.R_far (p := ⟨gb919, 1, none⟩) (Kd.R_far (p := ⟨gb919, 0, none⟩) (Kd.R_types HO908.out BK919.out (by decide)) (fun _ hk => hk.2) (.int .i64 t912)) (fun _ hk => hk.2) (.string t913)) (fun _ hk => hk.2) (.bool t914)) (fun _ hk => hk.2) (.slice Ao70 t915.length co70)) (fun _ h_ => h_.1))) hb); have n5_ := Aside0.mk (Kd.R_below (by (with_reducible repeat (first | apply Kd.R_alloc | apply Kd.R_drewN | apply Kd.R_drew)); exact (Kd.R_mono (Kd.R_far (p := ⟨gb919, 3, none⟩) (Kd.R_far (p := ⟨gb919, 2, none⟩) (Kd.R_far (p := ⟨gb919, 1, none⟩) (Kd.R_far (p := ⟨gb919, 0, none⟩) (Kd.R_types HO911.out BK919.out (by decide)) (fun _ hk => hk.2) (.int .i64 t912)) (fun _ hk => hk.2) (.string t913)) (fun _ hk => hk.2) (.bool t914)) (fun _ hk => hk.2) (.slice Ao70 t915.length co70)) (fun _ h_ => h_.1))) hb); have n6_ := Aside0.mk (Kd.R_below (by (with_reducible repeat (first | apply Kd.R_alloc | apply Kd.R_drewN | apply Kd.R_drew)); exact (Kd.R_mono (Kd.R_far (p := ⟨gb919, 3, none⟩) (Kd.R_far (p := ⟨gb919, 2, none⟩) (Kd.R_far (p := ⟨gb919, 1, none⟩) (Kd.R_far (p := ⟨gb919, 0, none⟩) (Kd.R_types HO917.out BK919.out (by decide)) (fun _ hk => hk.2) (.int .i64 t912)) (fun _ hk => hk.2) (.string t913)) (fun _ hk => hk.2) (.bool t914)) (fun _ hk => hk.2) (.slice Ao70 t915.length co70)) (fun _ h_ => h_.1))) hb); have n7_ := Aside0.mk (blk_below (g := gb898) (o := .cells #[.int .i64 t891, .string t892, .bool t893, .slice Ao51 t894.length co51] 28 (0, 0)) (by (with_reducible repeat (first | refine blk_drewN ?_ _ | refine blk_drew ?_ | refine blk_alloc ?_ _)); refine blk_far ?_ NB898_919.out _; (with_reducible repeat (first | refine blk_drewN ?_ _ | refine blk_drew ?_ | refine blk_alloc ?_ _)); refine blk_far ?_ NB898_919.out _; (with_reducible repeat (first | refine blk_drewN ?_ _ | refine blk_drew ?_ | refine blk_alloc ?_ _)); refine blk_far ?_ NB898_919.out _; (with_reducible repeat (first | refine blk_drewN ?_ _ | refine blk_drew ?_ | refine blk_alloc ?_ _)); refine blk_far ?_ NB898_919.out _; (with_reducible repeat (first | refine blk_drewN ?_ _ | refine blk_drew ?_ | refine blk_alloc ?_ _)); exact BK898.out) hb); have n8_ := Aside0.mk (blk_below (g := gb919) (o := .cells #[.int .i64 t912, .string t913, .bool t914, .slice Ao70 t915.length co70] 28 (0, 0)) (by (with_reducible repeat (first | refine blk_drewN ?_ _ | refine blk_drew ?_ | refine blk_alloc ?_ _)); refine blk_put (cs := #[.int .i64 t912, .string t913, .bool t914, .slice none 0 0]) ?_ 3 _ rfl; (with_reducible repeat (first | refine blk_drewN ?_ _ | refine blk_drew ?_ | refine blk_alloc ?_ _)); refine blk_put (cs := #[.int .i64 t912, .string t913, .bool false, .slice none 0 0]) ?_ 2 _ rfl; (with_reducible repeat (first | refine blk_drewN ?_ _ | refine blk_drew ?_ | refine blk_alloc ?_ _)); refine blk_put (cs := #[.int .i64 t912, .string (⟨#[]⟩ : ByteArray), .bool false, .slice none 0 0]) ?_ 1 _ rfl; (with_reducible repeat (first | refine blk_drewN ?_ _ | refine blk_drew ?_ | refine blk_alloc ?_ _)); refine blk_put (cs := #[.int .i64 0, .string (⟨#[]⟩ : ByteArray), .bool false, .slice none 0 0]) ?_ 0 _ rfl; (with_reducible repeat (first | refine blk_drewN ?_ _ | refine blk_drew ?_ | refine blk_alloc ?_ _)); exact BK919.out) hb); have n9_ := Aside0.mk (below_step (by repeat (first | (with_reducible first | exact HB.out | apply below_alloc | apply pw_below_drewN | apply below_drew1 | refine below_set ?_ GE898.out | refine below_set ?_ GE919.out) | exact HB.out)) hb); clear HO_5; clear HO_15; clear HO896; clear HO904; clear HO908; clear HO911; clear HO917; clear BK898; clear BK919; clear HB; have HO_5 := n0_; have HO_15 := n1_; have HO896 := n2_; have HO904 := n3_; have HO908 := n4_; have HO911 := n5_; have HO917 := n6_; have BK898 := n7_; have BK919 := n8_; have HB := n9_; clear n0_ n1_ n2_ n3_ n4_ n5_ n6_ n7_ n8_ n9_; (try clear hb); (try clear hb2); (try clear hk); (try clear hi)))
   go_ret
   exact ⟨by first | rfl | (simp [errW_none, errW_some] <;> rfl) | (simp only [← hji36]; first | rfl | (simp [errW_none, errW_some] <;> rfl)) | (simp [*, errW_none, errW_some] <;> rfl), by repeat (first | (with_reducible first | exact HB.out | apply below_alloc | apply pw_below_drewN | apply below_drew1 | refine below_set ?_ GE898.out | refine below_set ?_ GE919.out) | exact HB.out)⟩

end Go.Proofs.Ytdkjlbbbdjkhbaa.PAll
