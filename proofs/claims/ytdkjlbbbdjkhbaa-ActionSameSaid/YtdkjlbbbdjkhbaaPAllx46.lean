-- Written by a program of this session (wip/tools/drive.py over the kit's printer): functions, contracts and rows (All).
import Derived.Test.YtdkjlbbbdjkhbaaPAllx0
import Derived.Test.YtdkjlbbbdjkhbaaPAllx6
namespace Go.Proofs.Ytdkjlbbbdjkhbaa.PAll
open Go.RowKit Go.Proofs.YtdkjlbbbdjkhbaaW.PrintWords Go.Proofs.YtdkjlbbbdjkhbaaW.PrintLast Go.Proofs.YtdkjlbbbdjkhbaaW.PrintMore
attribute [local go_sem] max2_int min2_int max_two min_two max_three min_three max_four min_four   -- for this text's walks alone
open Go.Proofs.Ytdkjlbbbdjkhbaa.Hand
set_option linter.unusedVariables false
set_option linter.unusedSimpArgs false

/-! ### bolterlaw14_of: function 14 -/
mutual
def bolterlaw14_of.j0 : Nat → ByteArray → List ByteArray → Bool → Option (Int × ByteArray × Bool × (List (S43)))
 | 0, _, _, _ => none
 | k + 1, x0, x3, x17 => if x17 = true then (some (5, (⟨#[]⟩ : ByteArray), false, ([] : List (S43)))) else (if (x3.length : Int) = 1 then (if 0 < (x3.length : Int) then (bolterlaw14_of.j1 k x0 x3 ((rdOf ByteArray.empty x3 0).toList == ([114, 112, 122, 45, 112, 97, 115, 115, 116, 104, 114, 117] : List UInt8))) else (none)) else (bolterlaw14_of.j1 k x0 x3 false))
def bolterlaw14_of.j1 : Nat → ByteArray → List ByteArray → Bool → Option (Int × ByteArray × Bool × (List (S43)))
 | 0, _, _, _ => none
 | k + 1, x0, x3, x28 => if x28 = true then (some (2, (⟨#[]⟩ : ByteArray), false, ([] : List (S43)))) else (if (x3.length : Int) = 1 then (if 0 < (x3.length : Int) then (bolterlaw14_of.j2 k x0 x3 ((rdOf ByteArray.empty x3 0).toList == ([114, 112, 122, 45, 100, 114, 111, 112] : List UInt8))) else (none)) else (bolterlaw14_of.j2 k x0 x3 false))
def bolterlaw14_of.j2 : Nat → ByteArray → List ByteArray → Bool → Option (Int × ByteArray × Bool × (List (S43)))
 | 0, _, _, _ => none
 | k + 1, x0, x3, x39 => if x39 = true then (some (3, (⟨#[]⟩ : ByteArray), false, ([] : List (S43)))) else (if (x3.length : Int) = 1 then (if 0 < (x3.length : Int) then (bolterlaw14_of.j3 k x0 x3 ((rdOf ByteArray.empty x3 0).toList == ([114, 112, 122, 45, 116, 99, 112, 45, 111, 110, 108, 121] : List UInt8))) else (none)) else (bolterlaw14_of.j3 k x0 x3 false))
def bolterlaw14_of.j3 : Nat → ByteArray → List ByteArray → Bool → Option (Int × ByteArray × Bool × (List (S43)))
 | 0, _, _, _ => none
 | k + 1, x0, x3, x50 => if x50 = true then (some (6, (⟨#[]⟩ : ByteArray), false, ([] : List (S43)))) else (if 0 < (x3.length : Int) then (if (rdOf ByteArray.empty x3 0).toList = ([42] : List UInt8) then (if 1 ≤ (x3.length : Int) then ((name_Make.f (x3.drop 1)).bind fun bt763 => (some (7, bt763.1, true, ([] : List (S43))))) else (none)) else (some (7, x0, false, ([] : List (S43))))) else (none))
end
def bolterlaw14_of.f (k : Nat) (a0 : ByteArray) : Option (Int × ByteArray × Bool × (List (S43))) := (name_Labels.f k a0).bind fun bt750 => (if (bt750.1.length : Int) = 0 then (some (4, (⟨#[]⟩ : ByteArray), false, ([] : List (S43)))) else (if (bt750.1.length : Int) = 1 then (if 0 < (bt750.1.length : Int) then (bolterlaw14_of.j0 k a0 bt750.1 ((rdOf ByteArray.empty bt750.1 0).toList == ([42] : List UInt8))) else (none)) else (bolterlaw14_of.j0 k a0 bt750.1 false)))
theorem bolterlaw14_of.mono_l : ∀ k, (∀ y0 y1 y2, LeO (bolterlaw14_of.j0 k y0 y1 y2) (bolterlaw14_of.j0 (k + 1) y0 y1 y2)) ∧ (∀ y0 y1 y2, LeO (bolterlaw14_of.j1 k y0 y1 y2) (bolterlaw14_of.j1 (k + 1) y0 y1 y2)) ∧ (∀ y0 y1 y2, LeO (bolterlaw14_of.j2 k y0 y1 y2) (bolterlaw14_of.j2 (k + 1) y0 y1 y2)) ∧ (∀ y0 y1 y2, LeO (bolterlaw14_of.j3 k y0 y1 y2) (bolterlaw14_of.j3 (k + 1) y0 y1 y2))
 | 0 => ⟨fun _ _ _ r h => by simp [bolterlaw14_of.j0] at h, fun _ _ _ r h => by simp [bolterlaw14_of.j1] at h, fun _ _ _ r h => by simp [bolterlaw14_of.j2] at h, fun _ _ _ r h => by simp [bolterlaw14_of.j3] at h⟩
 | k + 1 => by
  obtain ⟨ih0, ih1, ih2, ih3⟩ := bolterlaw14_of.mono_l k
  refine ⟨?_, ?_, ?_, ?_⟩
  ·intro y0 y1 y2
   unfold bolterlaw14_of.j0
   repeat' first
   | (with_reducible exact ih0 _ _ _)
   | (with_reducible exact ih1 _ _ _)
   | (with_reducible exact ih2 _ _ _)
   | (with_reducible exact ih3 _ _ _)
   | (with_reducible exact name_Labels.mono _ _)
   | (with_reducible exact LeO.refl _)
   | (with_reducible exact LeO.none _)
   | (with_reducible refine LeO.ite ?_ ?_)
   | (with_reducible refine LeO.bind ?_ (fun _ => ?_))
   | exact ih0 _ _ _
   | exact ih1 _ _ _
   | exact ih2 _ _ _
   | exact ih3 _ _ _
   | exact name_Labels.mono _ _
   | exact LeO.none _
   | refine LeO.ite ?_ ?_
   | refine LeO.bind ?_ (fun _ => ?_)
  ·intro y0 y1 y2
   unfold bolterlaw14_of.j1
   repeat' first
   | (with_reducible exact ih0 _ _ _)
   | (with_reducible exact ih1 _ _ _)
   | (with_reducible exact ih2 _ _ _)
   | (with_reducible exact ih3 _ _ _)
   | (with_reducible exact name_Labels.mono _ _)
   | (with_reducible exact LeO.refl _)
   | (with_reducible exact LeO.none _)
   | (with_reducible refine LeO.ite ?_ ?_)
   | (with_reducible refine LeO.bind ?_ (fun _ => ?_))
   | exact ih0 _ _ _
   | exact ih1 _ _ _
   | exact ih2 _ _ _
   | exact ih3 _ _ _
   | exact name_Labels.mono _ _
   | exact LeO.none _
   | refine LeO.ite ?_ ?_
   | refine LeO.bind ?_ (fun _ => ?_)
  ·intro y0 y1 y2
   unfold bolterlaw14_of.j2
   repeat' first
   | (with_reducible exact ih0 _ _ _)
   | (with_reducible exact ih1 _ _ _)
   | (with_reducible exact ih2 _ _ _)
   | (with_reducible exact ih3 _ _ _)
   | (with_reducible exact name_Labels.mono _ _)
   | (with_reducible exact LeO.refl _)
   | (with_reducible exact LeO.none _)
   | (with_reducible refine LeO.ite ?_ ?_)
   | (with_reducible refine LeO.bind ?_ (fun _ => ?_))
   | exact ih0 _ _ _
   | exact ih1 _ _ _
   | exact ih2 _ _ _
   | exact ih3 _ _ _
   | exact name_Labels.mono _ _
   | exact LeO.none _
   | refine LeO.ite ?_ ?_
   | refine LeO.bind ?_ (fun _ => ?_)
  ·intro y0 y1 y2
   unfold bolterlaw14_of.j3
   repeat' first
   | (with_reducible exact ih0 _ _ _)
   | (with_reducible exact ih1 _ _ _)
   | (with_reducible exact ih2 _ _ _)
   | (with_reducible exact ih3 _ _ _)
   | (with_reducible exact name_Labels.mono _ _)
   | (with_reducible exact LeO.refl _)
   | (with_reducible exact LeO.none _)
   | (with_reducible refine LeO.ite ?_ ?_)
   | (with_reducible refine LeO.bind ?_ (fun _ => ?_))
   | exact ih0 _ _ _
   | exact ih1 _ _ _
   | exact ih2 _ _ _
   | exact ih3 _ _ _
   | exact name_Labels.mono _ _
   | exact LeO.none _
   | refine LeO.ite ?_ ?_
   | refine LeO.bind ?_ (fun _ => ?_)
theorem bolterlaw14_of.mono : ∀ a0 k, LeO (bolterlaw14_of.f k a0) (bolterlaw14_of.f (k + 1) a0) := by
 intro a0 k
 obtain ⟨ih0, ih1, ih2, ih3⟩ := bolterlaw14_of.mono_l k
 unfold bolterlaw14_of.f
 repeat' first
   | (with_reducible exact ih0 _ _ _)
   | (with_reducible exact ih1 _ _ _)
   | (with_reducible exact ih2 _ _ _)
   | (with_reducible exact ih3 _ _ _)
   | (with_reducible exact name_Labels.mono _ _)
   | (with_reducible exact LeO.refl _)
   | (with_reducible exact LeO.none _)
   | (with_reducible refine LeO.ite ?_ ?_)
   | (with_reducible refine LeO.bind ?_ (fun _ => ?_))
   | exact ih0 _ _ _
   | exact ih1 _ _ _
   | exact ih2 _ _ _
   | exact ih3 _ _ _
   | exact name_Labels.mono _ _
   | exact LeO.none _
   | refine LeO.ite ?_ ?_
   | refine LeO.bind ?_ (fun _ => ?_)
set_option maxHeartbeats 8000000 in
set_option maxRecDepth 100000 in
theorem bolterlaw14_of.calls (k : Nat) (a0 : ByteArray) (r1 : Int) (r2 : ByteArray) (r3 : Bool) (r4 : List (S43)) (w : World) (h : bolterlaw14_of.f k a0 = some (r1, r2, r3, r4)) :
  Calls Try.prog 14 #[.string a0] w fun e w' => ∃ v3_ : Value, e = .returned (.agg #[.int .i64 r1, .string r2, .bool r3, v3_]) ∧ Kd.R k43 43 w' w.heap.size (fun _ => True) v3_ r4 ∧ Below w.heap.size w w' := by
 have hu28 := Try.underlying28
 have HB := Aside0.mk (Below.refl w.heap.size w)
 have H : ((name_Labels.f k a0).bind fun bt750 => (if (bt750.1.length : Int) = 0 then (some (4, (⟨#[]⟩ : ByteArray), false, ([] : List (S43)))) else (if (bt750.1.length : Int) = 1 then (if 0 < (bt750.1.length : Int) then (bolterlaw14_of.j0 k a0 bt750.1 ((rdOf ByteArray.empty bt750.1 0).toList == ([42] : List UInt8))) else (none)) else (bolterlaw14_of.j0 k a0 bt750.1 false)))) = some (r1, r2, r3, r4) := h
 clear h
 replace H := Option.bind_eq_some_iff.mp H
 obtain ⟨⟨t750, t751⟩, A20, H⟩ := H
 replace H : (if (t750.length : Int) = 0 then (some (4, (⟨#[]⟩ : ByteArray), false, ([] : List (S43)))) else (if (t750.length : Int) = 1 then (if 0 < (t750.length : Int) then (bolterlaw14_of.j0 k a0 t750 ((rdOf ByteArray.empty t750 0).toList == ([42] : List UInt8))) else (none)) else (bolterlaw14_of.j0 k a0 t750 false))) = some (r1, r2, r3, r4) := H
 have A2 := Aside0.mk A20
 clear A20
 by_cases c3 : (t750.length : Int) = 0
 ·rw [if_pos c3] at H
  have c3b0 : ((t750.length : Int) == 0) = true := beq_iff_eq.mpr c3
  have c3b1 : ((t750.length : Int) != 0) = false := bne_eq_false_iff_eq.mpr c3
  clear c3
  simp only [Option.some.injEq, Prod.mk.injEq] at H
  obtain ⟨rfl, rfl, rfl, rfl⟩ := H
  go_enter Try.func14, Try.ntmps14
  go_wp2_with (first | ((with_reducible refine gate_dst (N := 2) rfl ?_); refine box_event ?hg (N := 2) ?hd (cs := #[.int .i64 0, .string (⟨#[]⟩ : ByteArray), .bool false, .slice none 0 0]) (t := 28) ?hr ?_; (case hd => rfl); (case hg => rfl); (case hr => first | (go_simp; done) | (go_simp; rfl)); intro gb749 hg w4 hbox hb; have n0_ := Aside0.mk (below_step (by repeat (first | (with_reducible first | exact HB.out | apply below_alloc | apply pw_below_drewN | apply below_drew1) | exact HB.out)) hb); have n1_ := Aside0.mk (hbox); have n2_ := Aside0.mk ((by rw [hg]; exact (below_size (by repeat (first | (with_reducible first | exact HB.out | apply below_alloc | apply pw_below_drewN | apply below_drew1) | exact HB.out))) : w.heap.size ≤ gb749)); have n3_ := Aside0.mk ((by rw [hg]; exact (below_size (by repeat (first | (with_reducible first | exact HB.out | apply below_alloc | apply pw_below_drewN | apply below_drew1) | exact HB.out))) : w.heap.size ≤ gb749)); clear HB; have HB := n0_; have BK749 := n1_; have GW749 := n2_; have GE749 := n3_; clear n0_ n1_ n2_ n3_; clear hb hbox hg) | ((with_reducible refine gate_callee (f := 37) rfl ?_); refine goesL_ (some 9) rfl rfl Try.func37 (by kernel_rfl) rfl #[.string a0] rfl (by (try simp only [List.map_toArray, List.map_cons, List.map_nil]); first | done | rfl | (simp only [List.length_drop, List.length_take]; rfl)) ?_; (with_reducible refine (name_Labels.calls k a0 t750 t751 _ A2.out).mono ?_); rintro e w5 ⟨v752, rfl, ho0, hb⟩; refine ⟨_, rfl, ?_⟩; have n0_ := Aside0.mk (Kd.R_lower ho0 (below_size (by repeat (first | (with_reducible first | exact HB.out | apply below_alloc | apply pw_below_drewN | apply below_drew1 | refine below_set ?_ GE749.out) | exact HB.out)))); have n1_ := Aside0.mk (blk_below (g := gb749) (o := .cells #[.int .i64 0, .string (⟨#[]⟩ : ByteArray), .bool false, .slice none 0 0] 28 (0, 0)) (by (with_reducible repeat (first | refine blk_drewN ?_ _ | refine blk_drew ?_ | refine blk_alloc ?_ _)); exact BK749.out) hb); have n2_ := Aside0.mk (below_step (by repeat (first | (with_reducible first | exact HB.out | apply below_alloc | apply pw_below_drewN | apply below_drew1 | refine below_set ?_ GE749.out) | exact HB.out)) hb); clear BK749; clear HB; have HO753 := n0_; have BK749 := n1_; have HB := n2_; clear n0_ n1_ n2_; (try clear hb); (try clear hb2); (try clear hk); (try clear hi); (try clear ho0); obtain ⟨Ao6, co6, eo6⟩ := Kd.R_slice HO753.out; subst eo6; have hcz7_0 : w5.cell? ⟨gb749, 0, none⟩ = some (.int .i64 0) := (blk_cell BK749.out 0).trans rfl; have hcz7_1 : w5.cell? ⟨gb749, 1, none⟩ = some (.string (⟨#[]⟩ : ByteArray)) := (blk_cell BK749.out 1).trans rfl; have hcz7_2 : w5.cell? ⟨gb749, 2, none⟩ = some (.bool false) := (blk_cell BK749.out 2).trans rfl; have hcz7_3 : w5.cell? ⟨gb749, 3, none⟩ = some (.slice none 0 0) := (blk_cell BK749.out 3).trans rfl; have hfz7_0 := blk_frozen BK749.out 0; have hfz7_1 := blk_frozen BK749.out 1; have hfz7_2 := blk_frozen BK749.out 2; have hfz7_3 := blk_frozen BK749.out 3))
  refine bodyPost_ret (results_cell_row rfl _ _ gb749 28 #[.int .i64 4, .string (⟨#[]⟩ : ByteArray), .bool false, .slice none 0 0] (0, 0) _ rfl (by (with_reducible repeat (first | refine blk_drewN ?_ _ | refine blk_drew ?_ | refine blk_alloc ?_ _)); refine blk_put (cs := #[.int .i64 4, .string (⟨#[]⟩ : ByteArray), .bool false, .slice none 0 0]) ?_ 3 _ rfl; (with_reducible repeat (first | refine blk_drewN ?_ _ | refine blk_drew ?_ | refine blk_alloc ?_ _)); refine blk_put (cs := #[.int .i64 4, .string (⟨#[]⟩ : ByteArray), .bool false, .slice none 0 0]) ?_ 2 _ rfl; (with_reducible repeat (first | refine blk_drewN ?_ _ | refine blk_drew ?_ | refine blk_alloc ?_ _)); refine blk_put (cs := #[.int .i64 4, .string (⟨#[]⟩ : ByteArray), .bool false, .slice none 0 0]) ?_ 1 _ rfl; (with_reducible repeat (first | refine blk_drewN ?_ _ | refine blk_drew ?_ | refine blk_alloc ?_ _)); refine blk_put (cs := #[.int .i64 0, .string (⟨#[]⟩ : ByteArray), .bool false, .slice none 0 0]) ?_ 0 _ rfl; (with_reducible repeat (first | refine blk_drewN ?_ _ | refine blk_drew ?_ | refine blk_alloc ?_ _)); exact BK749.out) Try.underlying28 rfl (by kernel_rfl)) rfl ?_
  exact ⟨_, by first | rfl | (simp [errW_none, errW_some] <;> rfl) | (simp [*, errW_none, errW_some] <;> rfl), by first | exact Kd.R_nil _ _ _ _ _ | exact Kd.N_nil _ _ _ _ _ | exact Kd.V_nil _ _ _ _ _ | exact Kd.Q_nil _ _ _ _ _ | exact Kd.S_nil _ _ _ _ _, by repeat (first | (with_reducible first | exact HB.out | apply below_alloc | apply pw_below_drewN | apply below_drew1 | refine below_set ?_ GE749.out) | exact HB.out)⟩
 rw [if_neg c3] at H
 have c3b0 : ((t750.length : Int) == 0) = false := beq_eq_false_iff_ne.mpr c3
 have c3b1 : ((t750.length : Int) != 0) = true := bne_iff_ne.mpr c3
 have c3b2 : ¬ (t750 = []) := fun h_ => c3 (by rw [h_]; rfl)
 have HC8 := Aside0.mk H
 clear H
 go_enter Try.func14, Try.ntmps14
 go_upto_region 4 with (first | ((with_reducible refine gate_dst (N := 2) rfl ?_); refine box_event ?hg (N := 2) ?hd (cs := #[.int .i64 0, .string (⟨#[]⟩ : ByteArray), .bool false, .slice none 0 0]) (t := 28) ?hr ?_; (case hd => rfl); (case hg => rfl); (case hr => first | (go_simp; done) | (go_simp; rfl)); intro gb749 hg w9 hbox hb; have n0_ := Aside0.mk (below_step (by repeat (first | (with_reducible first | exact HB.out | apply below_alloc | apply pw_below_drewN | apply below_drew1) | exact HB.out)) hb); have n1_ := Aside0.mk (hbox); have n2_ := Aside0.mk ((by rw [hg]; exact (below_size (by repeat (first | (with_reducible first | exact HB.out | apply below_alloc | apply pw_below_drewN | apply below_drew1) | exact HB.out))) : w.heap.size ≤ gb749)); have n3_ := Aside0.mk ((by rw [hg]; exact (below_size (by repeat (first | (with_reducible first | exact HB.out | apply below_alloc | apply pw_below_drewN | apply below_drew1) | exact HB.out))) : w.heap.size ≤ gb749)); clear HB; have HB := n0_; have BK749 := n1_; have GW749 := n2_; have GE749 := n3_; clear n0_ n1_ n2_ n3_; clear hb hbox hg) | ((with_reducible refine gate_callee (f := 37) rfl ?_); refine goesL_ (some 9) rfl rfl Try.func37 (by kernel_rfl) rfl #[.string a0] rfl (by (try simp only [List.map_toArray, List.map_cons, List.map_nil]); first | done | rfl | (simp only [List.length_drop, List.length_take]; rfl)) ?_; (with_reducible refine (name_Labels.calls k a0 t750 t751 _ A2.out).mono ?_); rintro e w10 ⟨v752, rfl, ho0, hb⟩; refine ⟨_, rfl, ?_⟩; have n0_ := Aside0.mk (Kd.R_lower ho0 (below_size (by repeat (first | (with_reducible first | exact HB.out | apply below_alloc | apply pw_below_drewN | apply below_drew1 | refine below_set ?_ GE749.out) | exact HB.out)))); have n1_ := Aside0.mk (blk_below (g := gb749) (o := .cells #[.int .i64 0, .string (⟨#[]⟩ : ByteArray), .bool false, .slice none 0 0] 28 (0, 0)) (by (with_reducible repeat (first | refine blk_drewN ?_ _ | refine blk_drew ?_ | refine blk_alloc ?_ _)); exact BK749.out) hb); have n2_ := Aside0.mk (below_step (by repeat (first | (with_reducible first | exact HB.out | apply below_alloc | apply pw_below_drewN | apply below_drew1 | refine below_set ?_ GE749.out) | exact HB.out)) hb); clear BK749; clear HB; have HO753 := n0_; have BK749 := n1_; have HB := n2_; clear n0_ n1_ n2_; (try clear hb); (try clear hb2); (try clear hk); (try clear hi); (try clear ho0); obtain ⟨Ao11, co11, eo11⟩ := Kd.R_slice HO753.out; subst eo11))
 (try simp only [Act.put, List.setIfInBounds_toArray, List.set_cons_zero, List.set_cons_succ])
 go_cut [17] (fun v17 wc => ∃ (kq : Nat) (x17_7 : Bool), v17 = .bool x17_7 ∧ Aside0 (bolterlaw14_of.j0 kq a0 t750 x17_7 = some (r1, r2, r3, r4)) ∧ Aside0 (kq ≤ k) ∧ Aside0 (Kd.R Kd.string 9 wc w.heap.size (fun _ => True) (.slice Ao11 t750.length co11) t750) ∧ Aside0 (wc.heap[gb749]? = some (.cells #[.int .i64 0, .string (⟨#[]⟩ : ByteArray), .bool false, (.slice none 0 0)] 28 (0, 0))) ∧ Aside0 (Below w.heap.size w wc))
 case first =>
  have H := HC8.out
  clear HC8
  by_cases c12 : (t750.length : Int) = 1
  rotate_left
  ·rw [if_neg c12] at H
   have c12b0 : ((t750.length : Int) == 1) = false := beq_eq_false_iff_ne.mpr c12
   have c12b1 : ((t750.length : Int) != 1) = true := bne_iff_ne.mpr c12
   (first | rw [c12b0] | (simp only [i64_w, i32_w]; rw [c12b0]) | skip)
   have H' := Aside0.mk H
   clear H
   go_wp2
   go_meet
   case rel => exact ⟨_, (false), (by first | rfl | (simp; done) | (simp [*]; done)), H', ⟨by first | omega | exact Nat.le_refl _⟩, ⟨by (with_reducible repeat (first | apply Kd.R_alloc | apply Kd.R_drewN | apply Kd.R_drew)); exact HO753.out⟩, ⟨by (with_reducible repeat (first | refine blk_drewN ?_ _ | refine blk_drew ?_ | refine blk_alloc ?_ _)); exact BK749.out⟩, ⟨by repeat (first | (with_reducible first | exact HB.out | apply below_alloc | apply pw_below_drewN | apply below_drew1 | refine below_set ?_ GE749.out) | exact HB.out)⟩⟩
  rw [if_pos c12] at H
  have c12b0 : ((t750.length : Int) == 1) = true := beq_iff_eq.mpr c12
  have c12b1 : ((t750.length : Int) != 1) = false := bne_eq_false_iff_eq.mpr c12
  clear c12
  (first | rw [c12b0] | (simp only [i64_w, i32_w]; rw [c12b0]) | skip)
  by_cases c13 : 0 < (t750.length : Int)
  rotate_left
  ·rw [if_neg c13] at H
   exact absurd H (by simp)
  rw [if_pos c13] at H
  have c13b0 : decide (0 < (t750.length : Int)) = true := decide_eq_true c13
  have c13b1 : decide (0 < t750.length) = true := decide_eq_true (by omega)
  clear c13
  have H' := Aside0.mk H
  clear H
  have p754 : 0 ≤ (0 : Int) := (by omega)
  have q754 : 0 < (t750.length : Int) := of_decide_eq_true (by first | (with_reducible assumption) | assumption)
  obtain ⟨ad754, e754, hx754_0⟩ := Kd.at_string (Kd.R_reads' HO753.out).2.2 0 p754 q754
  cases e754
  have qi754 : (0 < t750.length) = True := eq_true (by omega)
  (try rw [show ((0 : Int)).toNat = 0 from rfl] at hx754_0)
  (try rw [Addr.add_zero'] at hx754_0)
  replace p754 := eq_true p754
  replace q754 := eq_true q754
  go_wp2
  go_meet
  case rel => exact ⟨_, (((rdOf ByteArray.empty t750 0).toList == ([42] : List UInt8))), (by first | rfl | (simp; done) | (simp [*]; done)), H', ⟨by first | omega | exact Nat.le_refl _⟩, ⟨by (with_reducible repeat (first | apply Kd.R_alloc | apply Kd.R_drewN | apply Kd.R_drew)); exact HO753.out⟩, ⟨by (with_reducible repeat (first | refine blk_drewN ?_ _ | refine blk_drew ?_ | refine blk_alloc ?_ _)); exact BK749.out⟩, ⟨by repeat (first | (with_reducible first | exact HB.out | apply below_alloc | apply pw_below_drewN | apply below_drew1 | refine below_set ?_ GE749.out) | exact HB.out)⟩⟩
 case rest =>
  clear HC8
  try clear c1
  try clear p2
  try clear c3
  try clear c3b0
  try clear c3b1
  try clear c3b2
  try clear p7
  try clear q7
  try clear hx7
  try clear qi7
  try clear c12
  try clear c12b0
  try clear c12b1
  try clear c13
  try clear c13b0
  try clear c13b1
  try clear hcz7_0
  try clear hcz7_1
  try clear hcz7_2
  try clear hcz7_3
  try clear hfz7_0
  try clear hfz7_1
  try clear hfz7_2
  try clear hfz7_3
  try clear hx754_0
  try clear p754
  try clear q754
  obtain ⟨kq, x17_7, rfl, HA, HJ7, HO_3, BK749, HB⟩ := hcut
  cases kq with
  | zero => exact absurd HA.out (by simp [bolterlaw14_of.j0])
  | succ kj7 =>
   have H := HA.out
   clear HA
   simp only [bolterlaw14_of.j0] at H
   by_cases c14 : x17_7 = true
   ·subst c14
    have H1 : (some (5, (⟨#[]⟩ : ByteArray), false, ([] : List (S43)))) = some (r1, r2, r3, r4) := by rw [if_pos rfl] at H; exact H
    clear H
    have H := H1
    clear H1
    simp only [Option.some.injEq, Prod.mk.injEq] at H
    obtain ⟨rfl, rfl, rfl, rfl⟩ := H
    have hcz15_0 : wc.cell? ⟨gb749, 0, none⟩ = some (.int .i64 0) := (blk_cell BK749.out 0).trans rfl
    have hcz15_1 : wc.cell? ⟨gb749, 1, none⟩ = some (.string (⟨#[]⟩ : ByteArray)) := (blk_cell BK749.out 1).trans rfl
    have hcz15_2 : wc.cell? ⟨gb749, 2, none⟩ = some (.bool false) := (blk_cell BK749.out 2).trans rfl
    have hcz15_3 : wc.cell? ⟨gb749, 3, none⟩ = some (.slice none 0 0) := (blk_cell BK749.out 3).trans rfl
    have hfz15_0 := blk_frozen BK749.out 0
    have hfz15_1 := blk_frozen BK749.out 1
    have hfz15_2 := blk_frozen BK749.out 2
    have hfz15_3 := blk_frozen BK749.out 3
    go_wp2
    refine bodyPost_ret (results_cell_row rfl _ _ gb749 28 #[.int .i64 5, .string (⟨#[]⟩ : ByteArray), .bool false, .slice none 0 0] (0, 0) _ rfl (by (with_reducible repeat (first | refine blk_drewN ?_ _ | refine blk_drew ?_ | refine blk_alloc ?_ _)); refine blk_put (cs := #[.int .i64 5, .string (⟨#[]⟩ : ByteArray), .bool false, .slice none 0 0]) ?_ 3 _ rfl; (with_reducible repeat (first | refine blk_drewN ?_ _ | refine blk_drew ?_ | refine blk_alloc ?_ _)); refine blk_put (cs := #[.int .i64 5, .string (⟨#[]⟩ : ByteArray), .bool false, .slice none 0 0]) ?_ 2 _ rfl; (with_reducible repeat (first | refine blk_drewN ?_ _ | refine blk_drew ?_ | refine blk_alloc ?_ _)); refine blk_put (cs := #[.int .i64 5, .string (⟨#[]⟩ : ByteArray), .bool false, .slice none 0 0]) ?_ 1 _ rfl; (with_reducible repeat (first | refine blk_drewN ?_ _ | refine blk_drew ?_ | refine blk_alloc ?_ _)); refine blk_put (cs := #[.int .i64 0, .string (⟨#[]⟩ : ByteArray), .bool false, .slice none 0 0]) ?_ 0 _ rfl; (with_reducible repeat (first | refine blk_drewN ?_ _ | refine blk_drew ?_ | refine blk_alloc ?_ _)); exact BK749.out) Try.underlying28 rfl (by kernel_rfl)) rfl ?_
    exact ⟨_, by first | rfl | (simp [errW_none, errW_some] <;> rfl) | (simp [*, errW_none, errW_some] <;> rfl), by first | exact Kd.R_nil _ _ _ _ _ | exact Kd.N_nil _ _ _ _ _ | exact Kd.V_nil _ _ _ _ _ | exact Kd.Q_nil _ _ _ _ _ | exact Kd.S_nil _ _ _ _ _, by repeat (first | (with_reducible first | exact HB.out | apply below_alloc | apply pw_below_drewN | apply below_drew1 | refine below_set ?_ GE749.out) | exact HB.out)⟩
   replace c14 := Bool.eq_false_iff.mpr c14
   subst c14
   have H1 : (if (t750.length : Int) = 1 then (if 0 < (t750.length : Int) then (bolterlaw14_of.j1 kj7 a0 t750 ((rdOf ByteArray.empty t750 0).toList == ([114, 112, 122, 45, 112, 97, 115, 115, 116, 104, 114, 117] : List UInt8))) else (none)) else (bolterlaw14_of.j1 kj7 a0 t750 false)) = some (r1, r2, r3, r4) := by rw [if_neg (show ¬ (false = true) by decide)] at H; exact H
   clear H
   have H := H1
   clear H1
   have HC16 := Aside0.mk H
   clear H
   go_upto_region 6 with (fail)
   go_cut [28] (fun v28 wc => ∃ (kq : Nat) (x28_15 : Bool), v28 = .bool x28_15 ∧ Aside0 (bolterlaw14_of.j1 kq a0 t750 x28_15 = some (r1, r2, r3, r4)) ∧ Aside0 (kq ≤ kj7) ∧ Aside0 (Kd.R Kd.string 9 wc w.heap.size (fun _ => True) (.slice Ao11 t750.length co11) t750) ∧ Aside0 (wc.heap[gb749]? = some (.cells #[.int .i64 0, .string (⟨#[]⟩ : ByteArray), .bool false, (.slice none 0 0)] 28 (0, 0))) ∧ Aside0 (Below w.heap.size w wc))
   case first =>
    have H := HC16.out
    clear HC16
    by_cases c17 : (t750.length : Int) = 1
    rotate_left
    ·rw [if_neg c17] at H
     have c17b0 : ((t750.length : Int) == 1) = false := beq_eq_false_iff_ne.mpr c17
     have c17b1 : ((t750.length : Int) != 1) = true := bne_iff_ne.mpr c17
     (first | rw [c17b0] | (simp only [i64_w, i32_w]; rw [c17b0]) | skip)
     have H' := Aside0.mk H
     clear H
     go_wp2
     go_meet
     case rel => exact ⟨_, (false), (by first | rfl | (simp; done) | (simp [*]; done)), H', ⟨by have := HJ7.out; first | omega | exact Nat.le_refl _⟩, ⟨by (with_reducible repeat (first | apply Kd.R_alloc | apply Kd.R_drewN | apply Kd.R_drew)); exact HO_3.out⟩, ⟨by (with_reducible repeat (first | refine blk_drewN ?_ _ | refine blk_drew ?_ | refine blk_alloc ?_ _)); exact BK749.out⟩, ⟨by repeat (first | (with_reducible first | exact HB.out | apply below_alloc | apply pw_below_drewN | apply below_drew1 | refine below_set ?_ GE749.out) | exact HB.out)⟩⟩
    rw [if_pos c17] at H
    have c17b0 : ((t750.length : Int) == 1) = true := beq_iff_eq.mpr c17
    have c17b1 : ((t750.length : Int) != 1) = false := bne_eq_false_iff_eq.mpr c17
    clear c17
    (first | rw [c17b0] | (simp only [i64_w, i32_w]; rw [c17b0]) | skip)
    by_cases c18 : 0 < (t750.length : Int)
    rotate_left
    ·rw [if_neg c18] at H
     exact absurd H (by simp)
    rw [if_pos c18] at H
    have c18b0 : decide (0 < (t750.length : Int)) = true := decide_eq_true c18
    have c18b1 : decide (0 < t750.length) = true := decide_eq_true (by omega)
    clear c18
    have H' := Aside0.mk H
    clear H
    have p755 : 0 ≤ (0 : Int) := (by omega)
    have q755 : 0 < (t750.length : Int) := of_decide_eq_true (by first | (with_reducible assumption) | assumption)
    obtain ⟨ad755, e755, hx755_0⟩ := Kd.at_string (Kd.R_reads' HO_3.out).2.2 0 p755 q755
    cases e755
    have qi755 : (0 < t750.length) = True := eq_true (by omega)
    (try rw [show ((0 : Int)).toNat = 0 from rfl] at hx755_0)
    (try rw [Addr.add_zero'] at hx755_0)
    replace p755 := eq_true p755
    replace q755 := eq_true q755
    go_wp2
    go_meet
    case rel => exact ⟨_, (((rdOf ByteArray.empty t750 0).toList == ([114, 112, 122, 45, 112, 97, 115, 115, 116, 104, 114, 117] : List UInt8))), (by first | rfl | (simp; done) | (simp [*]; done)), H', ⟨by have := HJ7.out; first | omega | exact Nat.le_refl _⟩, ⟨by (with_reducible repeat (first | apply Kd.R_alloc | apply Kd.R_drewN | apply Kd.R_drew)); exact HO_3.out⟩, ⟨by (with_reducible repeat (first | refine blk_drewN ?_ _ | refine blk_drew ?_ | refine blk_alloc ?_ _)); exact BK749.out⟩, ⟨by repeat (first | (with_reducible first | exact HB.out | apply below_alloc | apply pw_below_drewN | apply below_drew1 | refine below_set ?_ GE749.out) | exact HB.out)⟩⟩
   case rest =>
    clear HC16
    try clear c1
    try clear p2
    try clear c3
    try clear c3b0
    try clear c3b1
    try clear c3b2
    try clear p7
    try clear q7
    try clear hx7
    try clear qi7
    try clear c12
    try clear c12b0
    try clear c12b1
    try clear c13
    try clear c13b0
    try clear c13b1
    try clear c14
    try clear c17
    try clear c17b0
    try clear c17b1
    try clear c18
    try clear c18b0
    try clear c18b1
    try clear hcz15_0
    try clear hcz15_1
    try clear hcz15_2
    try clear hcz15_3
    try clear hcz7_0
    try clear hcz7_1
    try clear hcz7_2
    try clear hcz7_3
    try clear hfz15_0
    try clear hfz15_1
    try clear hfz15_2
    try clear hfz15_3
    try clear hfz7_0
    try clear hfz7_1
    try clear hfz7_2
    try clear hfz7_3
    try clear hx754_0
    try clear hx755_0
    try clear p2
    try clear p7
    try clear p754
    try clear p755
    try clear q7
    try clear q754
    try clear q755
    obtain ⟨kq, x28_15, rfl, HA, HJ15, HO_3, BK749, HB⟩ := hcut
    cases kq with
    | zero => exact absurd HA.out (by simp [bolterlaw14_of.j1])
    | succ kj15 =>
     have H := HA.out
     clear HA
     simp only [bolterlaw14_of.j1] at H
     by_cases c19 : x28_15 = true
     ·subst c19
      have H1 : (some (2, (⟨#[]⟩ : ByteArray), false, ([] : List (S43)))) = some (r1, r2, r3, r4) := by rw [if_pos rfl] at H; exact H
      clear H
      have H := H1
      clear H1
      simp only [Option.some.injEq, Prod.mk.injEq] at H
      obtain ⟨rfl, rfl, rfl, rfl⟩ := H
      have hcz20_0 : wc.cell? ⟨gb749, 0, none⟩ = some (.int .i64 0) := (blk_cell BK749.out 0).trans rfl
      have hcz20_1 : wc.cell? ⟨gb749, 1, none⟩ = some (.string (⟨#[]⟩ : ByteArray)) := (blk_cell BK749.out 1).trans rfl
      have hcz20_2 : wc.cell? ⟨gb749, 2, none⟩ = some (.bool false) := (blk_cell BK749.out 2).trans rfl
      have hcz20_3 : wc.cell? ⟨gb749, 3, none⟩ = some (.slice none 0 0) := (blk_cell BK749.out 3).trans rfl
      have hfz20_0 := blk_frozen BK749.out 0
      have hfz20_1 := blk_frozen BK749.out 1
      have hfz20_2 := blk_frozen BK749.out 2
      have hfz20_3 := blk_frozen BK749.out 3
      go_wp2
      refine bodyPost_ret (results_cell_row rfl _ _ gb749 28 #[.int .i64 2, .string (⟨#[]⟩ : ByteArray), .bool false, .slice none 0 0] (0, 0) _ rfl (by (with_reducible repeat (first | refine blk_drewN ?_ _ | refine blk_drew ?_ | refine blk_alloc ?_ _)); refine blk_put (cs := #[.int .i64 2, .string (⟨#[]⟩ : ByteArray), .bool false, .slice none 0 0]) ?_ 3 _ rfl; (with_reducible repeat (first | refine blk_drewN ?_ _ | refine blk_drew ?_ | refine blk_alloc ?_ _)); refine blk_put (cs := #[.int .i64 2, .string (⟨#[]⟩ : ByteArray), .bool false, .slice none 0 0]) ?_ 2 _ rfl; (with_reducible repeat (first | refine blk_drewN ?_ _ | refine blk_drew ?_ | refine blk_alloc ?_ _)); refine blk_put (cs := #[.int .i64 2, .string (⟨#[]⟩ : ByteArray), .bool false, .slice none 0 0]) ?_ 1 _ rfl; (with_reducible repeat (first | refine blk_drewN ?_ _ | refine blk_drew ?_ | refine blk_alloc ?_ _)); refine blk_put (cs := #[.int .i64 0, .string (⟨#[]⟩ : ByteArray), .bool false, .slice none 0 0]) ?_ 0 _ rfl; (with_reducible repeat (first | refine blk_drewN ?_ _ | refine blk_drew ?_ | refine blk_alloc ?_ _)); exact BK749.out) Try.underlying28 rfl (by kernel_rfl)) rfl ?_
      exact ⟨_, by first | rfl | (simp [errW_none, errW_some] <;> rfl) | (simp [*, errW_none, errW_some] <;> rfl), by first | exact Kd.R_nil _ _ _ _ _ | exact Kd.N_nil _ _ _ _ _ | exact Kd.V_nil _ _ _ _ _ | exact Kd.Q_nil _ _ _ _ _ | exact Kd.S_nil _ _ _ _ _, by repeat (first | (with_reducible first | exact HB.out | apply below_alloc | apply pw_below_drewN | apply below_drew1 | refine below_set ?_ GE749.out) | exact HB.out)⟩
     replace c19 := Bool.eq_false_iff.mpr c19
     subst c19
     have H1 : (if (t750.length : Int) = 1 then (if 0 < (t750.length : Int) then (bolterlaw14_of.j2 kj15 a0 t750 ((rdOf ByteArray.empty t750 0).toList == ([114, 112, 122, 45, 100, 114, 111, 112] : List UInt8))) else (none)) else (bolterlaw14_of.j2 kj15 a0 t750 false)) = some (r1, r2, r3, r4) := by rw [if_neg (show ¬ (false = true) by decide)] at H; exact H
     clear H
     have H := H1
     clear H1
     have HC21 := Aside0.mk H
     clear H
     go_upto_region 8 with (fail)
     go_cut [39] (fun v39 wc => ∃ (kq : Nat) (x39_20 : Bool), v39 = .bool x39_20 ∧ Aside0 (bolterlaw14_of.j2 kq a0 t750 x39_20 = some (r1, r2, r3, r4)) ∧ Aside0 (kq ≤ kj15) ∧ Aside0 (Kd.R Kd.string 9 wc w.heap.size (fun _ => True) (.slice Ao11 t750.length co11) t750) ∧ Aside0 (wc.heap[gb749]? = some (.cells #[.int .i64 0, .string (⟨#[]⟩ : ByteArray), .bool false, (.slice none 0 0)] 28 (0, 0))) ∧ Aside0 (Below w.heap.size w wc))
     case first =>
      have H := HC21.out
      clear HC21
      by_cases c22 : (t750.length : Int) = 1
      rotate_left
      ·rw [if_neg c22] at H
       have c22b0 : ((t750.length : Int) == 1) = false := beq_eq_false_iff_ne.mpr c22
       have c22b1 : ((t750.length : Int) != 1) = true := bne_iff_ne.mpr c22
       (first | rw [c22b0] | (simp only [i64_w, i32_w]; rw [c22b0]) | skip)
       have H' := Aside0.mk H
       clear H
       go_wp2
       go_meet
       case rel => exact ⟨_, (false), (by first | rfl | (simp; done) | (simp [*]; done)), H', ⟨by have := HJ7.out; have := HJ15.out; first | omega | exact Nat.le_refl _⟩, ⟨by (with_reducible repeat (first | apply Kd.R_alloc | apply Kd.R_drewN | apply Kd.R_drew)); exact HO_3.out⟩, ⟨by (with_reducible repeat (first | refine blk_drewN ?_ _ | refine blk_drew ?_ | refine blk_alloc ?_ _)); exact BK749.out⟩, ⟨by repeat (first | (with_reducible first | exact HB.out | apply below_alloc | apply pw_below_drewN | apply below_drew1 | refine below_set ?_ GE749.out) | exact HB.out)⟩⟩
      rw [if_pos c22] at H
      have c22b0 : ((t750.length : Int) == 1) = true := beq_iff_eq.mpr c22
      have c22b1 : ((t750.length : Int) != 1) = false := bne_eq_false_iff_eq.mpr c22
      clear c22
      (first | rw [c22b0] | (simp only [i64_w, i32_w]; rw [c22b0]) | skip)
      by_cases c23 : 0 < (t750.length : Int)
      rotate_left
      ·rw [if_neg c23] at H
       exact absurd H (by simp)
      rw [if_pos c23] at H
      have c23b0 : decide (0 < (t750.length : Int)) = true := decide_eq_true c23
      have c23b1 : decide (0 < t750.length) = true := decide_eq_true (by omega)
      clear c23
      have H' := Aside0.mk H
      clear H
      have p756 : 0 ≤ (0 : Int) := (by omega)
      have q756 : 0 < (t750.length : Int) := of_decide_eq_true (by first | (with_reducible assumption) | assumption)
      obtain ⟨ad756, e756, hx756_0⟩ := Kd.at_string (Kd.R_reads' HO_3.out).2.2 0 p756 q756
      cases e756
      have qi756 : (0 < t750.length) = True := eq_true (by omega)
      (try rw [show ((0 : Int)).toNat = 0 from rfl] at hx756_0)
      (try rw [Addr.add_zero'] at hx756_0)
      replace p756 := eq_true p756
      replace q756 := eq_true q756
      go_wp2
      go_meet
      case rel => exact ⟨_, (((rdOf ByteArray.empty t750 0).toList == ([114, 112, 122, 45, 100, 114, 111, 112] : List UInt8))), (by first | rfl | (simp; done) | (simp [*]; done)), H', ⟨by have := HJ7.out; have := HJ15.out; first | omega | exact Nat.le_refl _⟩, ⟨by (with_reducible repeat (first | apply Kd.R_alloc | apply Kd.R_drewN | apply Kd.R_drew)); exact HO_3.out⟩, ⟨by (with_reducible repeat (first | refine blk_drewN ?_ _ | refine blk_drew ?_ | refine blk_alloc ?_ _)); exact BK749.out⟩, ⟨by repeat (first | (with_reducible first | exact HB.out | apply below_alloc | apply pw_below_drewN | apply below_drew1 | refine below_set ?_ GE749.out) | exact HB.out)⟩⟩
     case rest =>
      clear HC21
      try clear c1
      try clear c2
      try clear p2
      try clear c3
      try clear c3b0
      try clear c3b1
      try clear c3b2
      try clear p7
      try clear q7
      try clear hx7
      try clear qi7
      try clear c12
      try clear c12b0
      try clear c12b1
      try clear c13
      try clear c13b0
      try clear c13b1
      try clear c14
      try clear c17
      try clear c17b0
      try clear c17b1
      try clear c18
      try clear c18b0
      try clear c18b1
      try clear c19
      try clear c22
      try clear c22b0
      try clear c22b1
      try clear c23
      try clear c23b0
      try clear c23b1
      try clear hcz15_0
      try clear hcz15_1
      try clear hcz15_2
      try clear hcz15_3
      try clear hcz20_0
      try clear hcz20_1
      try clear hcz20_2
      try clear hcz20_3
      try clear hcz7_0
      try clear hcz7_1
      try clear hcz7_2
      try clear hcz7_3
      try clear hfz15_0
      try clear hfz15_1
      try clear hfz15_2
      try clear hfz15_3
      try clear hfz20_0
      try clear hfz20_1
      try clear hfz20_2
      try clear hfz20_3
      try clear hfz7_0
      try clear hfz7_1
      try clear hfz7_2
      try clear hfz7_3
      try clear hx754_0
      try clear hx755_0
      try clear hx756_0
      try clear p2
      try clear p7
      try clear p754
      try clear p755
      try clear p756
      try clear q7
      try clear q754
      try clear q755
      try clear q756
      obtain ⟨kq, x39_20, rfl, HA, HJ20, HO_3, BK749, HB⟩ := hcut
      cases kq with
      | zero => exact absurd HA.out (by simp [bolterlaw14_of.j2])
      | succ kj20 =>
       have H := HA.out
       clear HA
       simp only [bolterlaw14_of.j2] at H
       by_cases c24 : x39_20 = true
       ·subst c24
        have H1 : (some (3, (⟨#[]⟩ : ByteArray), false, ([] : List (S43)))) = some (r1, r2, r3, r4) := by rw [if_pos rfl] at H; exact H
        clear H
        have H := H1
        clear H1
        simp only [Option.some.injEq, Prod.mk.injEq] at H
        obtain ⟨rfl, rfl, rfl, rfl⟩ := H
        have hcz25_0 : wc.cell? ⟨gb749, 0, none⟩ = some (.int .i64 0) := (blk_cell BK749.out 0).trans rfl
        have hcz25_1 : wc.cell? ⟨gb749, 1, none⟩ = some (.string (⟨#[]⟩ : ByteArray)) := (blk_cell BK749.out 1).trans rfl
        have hcz25_2 : wc.cell? ⟨gb749, 2, none⟩ = some (.bool false) := (blk_cell BK749.out 2).trans rfl
        have hcz25_3 : wc.cell? ⟨gb749, 3, none⟩ = some (.slice none 0 0) := (blk_cell BK749.out 3).trans rfl
        have hfz25_0 := blk_frozen BK749.out 0
        have hfz25_1 := blk_frozen BK749.out 1
        have hfz25_2 := blk_frozen BK749.out 2
        have hfz25_3 := blk_frozen BK749.out 3
        go_wp2
        refine bodyPost_ret (results_cell_row rfl _ _ gb749 28 #[.int .i64 3, .string (⟨#[]⟩ : ByteArray), .bool false, .slice none 0 0] (0, 0) _ rfl (by (with_reducible repeat (first | refine blk_drewN ?_ _ | refine blk_drew ?_ | refine blk_alloc ?_ _)); refine blk_put (cs := #[.int .i64 3, .string (⟨#[]⟩ : ByteArray), .bool false, .slice none 0 0]) ?_ 3 _ rfl; (with_reducible repeat (first | refine blk_drewN ?_ _ | refine blk_drew ?_ | refine blk_alloc ?_ _)); refine blk_put (cs := #[.int .i64 3, .string (⟨#[]⟩ : ByteArray), .bool false, .slice none 0 0]) ?_ 2 _ rfl; (with_reducible repeat (first | refine blk_drewN ?_ _ | refine blk_drew ?_ | refine blk_alloc ?_ _)); refine blk_put (cs := #[.int .i64 3, .string (⟨#[]⟩ : ByteArray), .bool false, .slice none 0 0]) ?_ 1 _ rfl; (with_reducible repeat (first | refine blk_drewN ?_ _ | refine blk_drew ?_ | refine blk_alloc ?_ _)); refine blk_put (cs := #[.int .i64 0, .string (⟨#[]⟩ : ByteArray), .bool false, .slice none 0 0]) ?_ 0 _ rfl; (with_reducible repeat (first | refine blk_drewN ?_ _ | refine blk_drew ?_ | refine blk_alloc ?_ _)); exact BK749.out) Try.underlying28 rfl (by kernel_rfl)) rfl ?_
        exact ⟨_, by first | rfl | (simp [errW_none, errW_some] <;> rfl) | (simp [*, errW_none, errW_some] <;> rfl), by first | exact Kd.R_nil _ _ _ _ _ | exact Kd.N_nil _ _ _ _ _ | exact Kd.V_nil _ _ _ _ _ | exact Kd.Q_nil _ _ _ _ _ | exact Kd.S_nil _ _ _ _ _, by repeat (first | (with_reducible first | exact HB.out | apply below_alloc | apply pw_below_drewN | apply below_drew1 | refine below_set ?_ GE749.out) | exact HB.out)⟩
       replace c24 := Bool.eq_false_iff.mpr c24
       subst c24
       have H1 : (if (t750.length : Int) = 1 then (if 0 < (t750.length : Int) then (bolterlaw14_of.j3 kj20 a0 t750 ((rdOf ByteArray.empty t750 0).toList == ([114, 112, 122, 45, 116, 99, 112, 45, 111, 110, 108, 121] : List UInt8))) else (none)) else (bolterlaw14_of.j3 kj20 a0 t750 false)) = some (r1, r2, r3, r4) := by rw [if_neg (show ¬ (false = true) by decide)] at H; exact H
       clear H
       have H := H1
       clear H1
       have HC26 := Aside0.mk H
       clear H
       go_upto_region 10 with (fail)
       go_cut [50] (fun v50 wc => ∃ (kq : Nat) (x50_25 : Bool), v50 = .bool x50_25 ∧ Aside0 (bolterlaw14_of.j3 kq a0 t750 x50_25 = some (r1, r2, r3, r4)) ∧ Aside0 (kq ≤ kj20) ∧ Aside0 (Kd.R Kd.string 9 wc w.heap.size (fun _ => True) (.slice Ao11 t750.length co11) t750) ∧ Aside0 (wc.heap[gb749]? = some (.cells #[.int .i64 0, .string (⟨#[]⟩ : ByteArray), .bool false, (.slice none 0 0)] 28 (0, 0))) ∧ Aside0 (Below w.heap.size w wc))
       case first =>
        have H := HC26.out
        clear HC26
        by_cases c27 : (t750.length : Int) = 1
        rotate_left
        ·rw [if_neg c27] at H
         have c27b0 : ((t750.length : Int) == 1) = false := beq_eq_false_iff_ne.mpr c27
         have c27b1 : ((t750.length : Int) != 1) = true := bne_iff_ne.mpr c27
         (first | rw [c27b0] | (simp only [i64_w, i32_w]; rw [c27b0]) | skip)
         have H' := Aside0.mk H
         clear H
         go_wp2
         go_meet
         case rel => exact ⟨_, (false), (by first | rfl | (simp; done) | (simp [*]; done)), H', ⟨by have := HJ7.out; have := HJ15.out; have := HJ20.out; first | omega | exact Nat.le_refl _⟩, ⟨by (with_reducible repeat (first | apply Kd.R_alloc | apply Kd.R_drewN | apply Kd.R_drew)); exact HO_3.out⟩, ⟨by (with_reducible repeat (first | refine blk_drewN ?_ _ | refine blk_drew ?_ | refine blk_alloc ?_ _)); exact BK749.out⟩, ⟨by repeat (first | (with_reducible first | exact HB.out | apply below_alloc | apply pw_below_drewN | apply below_drew1 | refine below_set ?_ GE749.out) | exact HB.out)⟩⟩
        rw [if_pos c27] at H
        have c27b0 : ((t750.length : Int) == 1) = true := beq_iff_eq.mpr c27
        have c27b1 : ((t750.length : Int) != 1) = false := bne_eq_false_iff_eq.mpr c27
        clear c27
        (first | rw [c27b0] | (simp only [i64_w, i32_w]; rw [c27b0]) | skip)
        by_cases c28 : 0 < (t750.length : Int)
        rotate_left
        ·rw [if_neg c28] at H
         exact absurd H (by simp)
        rw [if_pos c28] at H
        have c28b0 : decide (0 < (t750.length : Int)) = true := decide_eq_true c28
        have c28b1 : decide (0 < t750.length) = true := decide_eq_true (by omega)
        clear c28
        have H' := Aside0.mk H
        clear H
        have p757 : 0 ≤ (0 : Int) := (by omega)
        have q757 : 0 < (t750.length : Int) := of_decide_eq_true (by first | (with_reducible assumption) | assumption)
        obtain ⟨ad757, e757, hx757_0⟩ := Kd.at_string (Kd.R_reads' HO_3.out).2.2 0 p757 q757
        cases e757
        have qi757 : (0 < t750.length) = True := eq_true (by omega)
        (try rw [show ((0 : Int)).toNat = 0 from rfl] at hx757_0)
        (try rw [Addr.add_zero'] at hx757_0)
        replace p757 := eq_true p757
        replace q757 := eq_true q757
        go_wp2
        go_meet
        case rel => exact ⟨_, (((rdOf ByteArray.empty t750 0).toList == ([114, 112, 122, 45, 116, 99, 112, 45, 111, 110, 108, 121] : List UInt8))), (by first | rfl | (simp; done) | (simp [*]; done)), H', ⟨by have := HJ7.out; have := HJ15.out; have := HJ20.out; first | omega | exact Nat.le_refl _⟩, ⟨by (with_reducible repeat (first | apply Kd.R_alloc | apply Kd.R_drewN | apply Kd.R_drew)); exact HO_3.out⟩, ⟨by (with_reducible repeat (first | refine blk_drewN ?_ _ | refine blk_drew ?_ | refine blk_alloc ?_ _)); exact BK749.out⟩, ⟨by repeat (first | (with_reducible first | exact HB.out | apply below_alloc | apply pw_below_drewN | apply below_drew1 | refine below_set ?_ GE749.out) | exact HB.out)⟩⟩
       case rest =>
        clear HC26
        try clear c1
        try clear c2
        try clear p2
        try clear c3
        try clear c3b0
        try clear c3b1
        try clear c3b2
        try clear p7
        try clear q7
        try clear hx7
        try clear qi7
        try clear c12
        try clear c12b0
        try clear c12b1
        try clear c13
        try clear c13b0
        try clear c13b1
        try clear c14
        try clear c17
        try clear c17b0
        try clear c17b1
        try clear c18
        try clear c18b0
        try clear c18b1
        try clear c19
        try clear c22
        try clear c22b0
        try clear c22b1
        try clear c23
        try clear c23b0
        try clear c23b1
        try clear c24
        try clear c27
        try clear c27b0
        try clear c27b1
        try clear c28
        try clear c28b0
        try clear c28b1
        try clear hcz15_0
        try clear hcz15_1
        try clear hcz15_2
        try clear hcz15_3
        try clear hcz20_0
        try clear hcz20_1
        try clear hcz20_2
        try clear hcz20_3
        try clear hcz25_0
        try clear hcz25_1
        try clear hcz25_2
        try clear hcz25_3
        try clear hcz7_0
        try clear hcz7_1
        try clear hcz7_2
        try clear hcz7_3
        try clear hfz15_0
        try clear hfz15_1
        try clear hfz15_2
        try clear hfz15_3
        try clear hfz20_0
        try clear hfz20_1
        try clear hfz20_2
        try clear hfz20_3
        try clear hfz25_0
        try clear hfz25_1
        try clear hfz25_2
        try clear hfz25_3
        try clear hfz7_0
        try clear hfz7_1
        try clear hfz7_2
        try clear hfz7_3
        try clear hx754_0
        try clear hx755_0
        try clear hx756_0
        try clear hx757_0
        try clear p2
        try clear p7
        try clear p754
        try clear p755
        try clear p756
        try clear p757
        try clear q7
        try clear q754
        try clear q755
        try clear q756
        try clear q757
        obtain ⟨kq, x50_25, rfl, HA, HJ25, HO_3, BK749, HB⟩ := hcut
        cases kq with
        | zero => exact absurd HA.out (by simp [bolterlaw14_of.j3])
        | succ kj25 =>
         have H := HA.out
         clear HA
         simp only [bolterlaw14_of.j3] at H
         by_cases c29 : x50_25 = true
         ·subst c29
          have H1 : (some (6, (⟨#[]⟩ : ByteArray), false, ([] : List (S43)))) = some (r1, r2, r3, r4) := by rw [if_pos rfl] at H; exact H
          clear H
          have H := H1
          clear H1
          simp only [Option.some.injEq, Prod.mk.injEq] at H
          obtain ⟨rfl, rfl, rfl, rfl⟩ := H
          have hcz30_0 : wc.cell? ⟨gb749, 0, none⟩ = some (.int .i64 0) := (blk_cell BK749.out 0).trans rfl
          have hcz30_1 : wc.cell? ⟨gb749, 1, none⟩ = some (.string (⟨#[]⟩ : ByteArray)) := (blk_cell BK749.out 1).trans rfl
          have hcz30_2 : wc.cell? ⟨gb749, 2, none⟩ = some (.bool false) := (blk_cell BK749.out 2).trans rfl
          have hcz30_3 : wc.cell? ⟨gb749, 3, none⟩ = some (.slice none 0 0) := (blk_cell BK749.out 3).trans rfl
          have hfz30_0 := blk_frozen BK749.out 0
          have hfz30_1 := blk_frozen BK749.out 1
          have hfz30_2 := blk_frozen BK749.out 2
          have hfz30_3 := blk_frozen BK749.out 3
          go_wp2
          refine bodyPost_ret (results_cell_row rfl _ _ gb749 28 #[.int .i64 6, .string (⟨#[]⟩ : ByteArray), .bool false, .slice none 0 0] (0, 0) _ rfl (by (with_reducible repeat (first | refine blk_drewN ?_ _ | refine blk_drew ?_ | refine blk_alloc ?_ _)); refine blk_put (cs := #[.int .i64 6, .string (⟨#[]⟩ : ByteArray), .bool false, .slice none 0 0]) ?_ 3 _ rfl; (with_reducible repeat (first | refine blk_drewN ?_ _ | refine blk_drew ?_ | refine blk_alloc ?_ _)); refine blk_put (cs := #[.int .i64 6, .string (⟨#[]⟩ : ByteArray), .bool false, .slice none 0 0]) ?_ 2 _ rfl; (with_reducible repeat (first | refine blk_drewN ?_ _ | refine blk_drew ?_ | refine blk_alloc ?_ _)); refine blk_put (cs := #[.int .i64 6, .string (⟨#[]⟩ : ByteArray), .bool false, .slice none 0 0]) ?_ 1 _ rfl; (with_reducible repeat (first | refine blk_drewN ?_ _ | refine blk_drew ?_ | refine blk_alloc ?_ _)); refine blk_put (cs := #[.int .i64 0, .string (⟨#[]⟩ : ByteArray), .bool false, .slice none 0 0]) ?_ 0 _ rfl; (with_reducible repeat (first | refine blk_drewN ?_ _ | refine blk_drew ?_ | refine blk_alloc ?_ _)); exact BK749.out) Try.underlying28 rfl (by kernel_rfl)) rfl ?_
          exact ⟨_, by first | rfl | (simp [errW_none, errW_some] <;> rfl) | (simp [*, errW_none, errW_some] <;> rfl), by first | exact Kd.R_nil _ _ _ _ _ | exact Kd.N_nil _ _ _ _ _ | exact Kd.V_nil _ _ _ _ _ | exact Kd.Q_nil _ _ _ _ _ | exact Kd.S_nil _ _ _ _ _, by repeat (first | (with_reducible first | exact HB.out | apply below_alloc | apply pw_below_drewN | apply below_drew1 | refine below_set ?_ GE749.out) | exact HB.out)⟩
         replace c29 := Bool.eq_false_iff.mpr c29
         subst c29
         have H1 : (if 0 < (t750.length : Int) then (if (rdOf ByteArray.empty t750 0).toList = ([42] : List UInt8) then (if 1 ≤ (t750.length : Int) then ((name_Make.f (t750.drop 1)).bind fun bt763 => (some (7, bt763.1, true, ([] : List (S43))))) else (none)) else (some (7, a0, false, ([] : List (S43))))) else (none)) = some (r1, r2, r3, r4) := by rw [if_neg (show ¬ (false = true) by decide)] at H; exact H
         clear H
         have H := H1
         clear H1
         by_cases c31 : 0 < (t750.length : Int)
         rotate_left
         ·rw [if_neg c31] at H
          exact absurd H (by simp)
         rw [if_pos c31] at H
         have c31b0 : decide (0 < (t750.length : Int)) = true := decide_eq_true c31
         have c31b1 : decide (0 < t750.length) = true := decide_eq_true (by omega)
         clear c31
         by_cases c32 : (rdOf ByteArray.empty t750 0).toList = ([42] : List UInt8)
         rotate_left
         ·rw [if_neg c32] at H
          have c32b0 : ((rdOf ByteArray.empty t750 0).toList == ([42] : List UInt8)) = false := beq_eq_false_iff_ne.mpr c32
          have c32b1 : ((rdOf ByteArray.empty t750 0).toList != ([42] : List UInt8)) = true := bne_iff_ne.mpr c32
          simp only [Option.some.injEq, Prod.mk.injEq] at H
          obtain ⟨rfl, rfl, rfl, rfl⟩ := H
          have p758 : 0 ≤ (0 : Int) := (by omega)
          have q758 : 0 < (t750.length : Int) := of_decide_eq_true (by first | (with_reducible assumption) | assumption)
          obtain ⟨ad758, e758, hx758_0⟩ := Kd.at_string (Kd.R_reads' HO_3.out).2.2 0 p758 q758
          cases e758
          have qi758 : (0 < t750.length) = True := eq_true (by omega)
          (try rw [show ((0 : Int)).toNat = 0 from rfl] at hx758_0)
          (try rw [Addr.add_zero'] at hx758_0)
          replace p758 := eq_true p758
          replace q758 := eq_true q758
          have hcz38_0 : wc.cell? ⟨gb749, 0, none⟩ = some (.int .i64 0) := (blk_cell BK749.out 0).trans rfl
          have hcz38_1 : wc.cell? ⟨gb749, 1, none⟩ = some (.string (⟨#[]⟩ : ByteArray)) := (blk_cell BK749.out 1).trans rfl
          have hcz38_2 : wc.cell? ⟨gb749, 2, none⟩ = some (.bool false) := (blk_cell BK749.out 2).trans rfl
          have hcz38_3 : wc.cell? ⟨gb749, 3, none⟩ = some (.slice none 0 0) := (blk_cell BK749.out 3).trans rfl
          have hfz38_0 := blk_frozen BK749.out 0
          have hfz38_1 := blk_frozen BK749.out 1
          have hfz38_2 := blk_frozen BK749.out 2
          have hfz38_3 := blk_frozen BK749.out 3
          go_wp2
          refine bodyPost_ret (results_cell_row rfl _ _ gb749 28 #[.int .i64 7, .string a0, .bool false, .slice none 0 0] (0, 0) _ rfl (by (with_reducible repeat (first | refine blk_drewN ?_ _ | refine blk_drew ?_ | refine blk_alloc ?_ _)); refine blk_put (cs := #[.int .i64 7, .string a0, .bool false, .slice none 0 0]) ?_ 3 _ rfl; (with_reducible repeat (first | refine blk_drewN ?_ _ | refine blk_drew ?_ | refine blk_alloc ?_ _)); refine blk_put (cs := #[.int .i64 7, .string a0, .bool false, .slice none 0 0]) ?_ 2 _ rfl; (with_reducible repeat (first | refine blk_drewN ?_ _ | refine blk_drew ?_ | refine blk_alloc ?_ _)); refine blk_put (cs := #[.int .i64 7, .string (⟨#[]⟩ : ByteArray), .bool false, .slice none 0 0]) ?_ 1 _ rfl; (with_reducible repeat (first | refine blk_drewN ?_ _ | refine blk_drew ?_ | refine blk_alloc ?_ _)); refine blk_put (cs := #[.int .i64 0, .string (⟨#[]⟩ : ByteArray), .bool false, .slice none 0 0]) ?_ 0 _ rfl; (with_reducible repeat (first | refine blk_drewN ?_ _ | refine blk_drew ?_ | refine blk_alloc ?_ _)); exact BK749.out) Try.underlying28 rfl (by kernel_rfl)) rfl ?_
          exact ⟨_, by first | rfl | (simp [errW_none, errW_some] <;> rfl) | (simp [*, errW_none, errW_some] <;> rfl), by first | exact Kd.R_nil _ _ _ _ _ | exact Kd.N_nil _ _ _ _ _ | exact Kd.V_nil _ _ _ _ _ | exact Kd.Q_nil _ _ _ _ _ | exact Kd.S_nil _ _ _ _ _, by repeat (first | (with_reducible first | exact HB.out | apply below_alloc | apply pw_below_drewN | apply below_drew1 | refine below_set ?_ GE749.out) | exact HB.out)⟩
         rw [if_pos c32] at H
         have c32b0 : ((rdOf ByteArray.empty t750 0).toList == ([42] : List UInt8)) = true := beq_iff_eq.mpr c32
         have c32b1 : ((rdOf ByteArray.empty t750 0).toList != ([42] : List UInt8)) = false := bne_eq_false_iff_eq.mpr c32
         clear c32
         by_cases c33 : 1 ≤ (t750.length : Int)
         rotate_left
         ·rw [if_neg c33] at H
          exact absurd H (by simp)
         rw [if_pos c33] at H
         have c33b0 := eq_true c33
         have c33b1 : decide (1 ≤ (t750.length : Int)) = true := decide_eq_true c33
         clear c33
         obtain ⟨y759, hy759⟩ : ∃ y_ : List ByteArray, y_ = (t750.drop 1) := ⟨_, rfl⟩
         replace H : ((name_Make.f y759).bind fun bt763 => (some (7, bt763.1, true, ([] : List (S43))))) = some (r1, r2, r3, r4) := by first | (rw [hy759]; with_reducible exact H) | (have H2_ := (Option.bind_some _ _).symm.trans H; rw [hy759]; with_reducible exact H2_) | (have H2_ := (Option.bind_some _ _).symm.trans H; with_reducible exact H2_) | with_reducible exact H | (rw [hy759]; exact H) | exact H
         have Ny759 := Aside0.mk hy759
         clear hy759
         replace H := Option.bind_eq_some_iff.mp H
         obtain ⟨⟨t763, t764⟩, A340, H⟩ := H
         replace H : (some (7, t763, true, ([] : List (S43)))) = some (r1, r2, r3, r4) := H
         have A34 := Aside0.mk A340
         clear A340
         simp only [Option.some.injEq, Prod.mk.injEq] at H
         obtain ⟨rfl, rfl, rfl, rfl⟩ := H
         have p758 : 0 ≤ (0 : Int) := (by omega)
         have q758 : 0 < (t750.length : Int) := of_decide_eq_true (by first | (with_reducible assumption) | assumption)
         obtain ⟨ad758, e758, hx758_0⟩ := Kd.at_string (Kd.R_reads' HO_3.out).2.2 0 p758 q758
         cases e758
         have qi758 : (0 < t750.length) = True := eq_true (by omega)
         (try rw [show ((0 : Int)).toNat = 0 from rfl] at hx758_0)
         (try rw [Addr.add_zero'] at hx758_0)
         replace p758 := eq_true p758
         replace q758 := eq_true q758
         have q35 : (1 : Int) ≤ ((t750.length : Int) : Int) := of_decide_eq_true (by first | (with_reducible assumption) | assumption)
         obtain ⟨i035, hi035, _, hsz35, _⟩ := info_parts info9
         have hroom35 : t750.length ≤ co11 := (Kd.R_reads' HO_3.out).2.1
         have hC35 : Kd.C Kd.string _ (some ad758) t750.length t750 := (Kd.R_reads' HO_3.out).2.2
         have hcut35 := cut_from (P := Try.prog) 74 9 .i64 Try.underlying74 hi035 1 hsz35 (some ad758) t750.length co11 1 (by omega) q35
         have hr35 := Kd.C_drop (m := (1 : Int).toNat) (c := co11) hC35 (by omega) hroom35
         obtain ⟨A35, hA35⟩ : ∃ A1, A1 = (if co11 = (1 : Int).toNat then (some ad758) else ((some ad758) : Option Addr).map (·.add ((1 : Int).toNat * 1))) := ⟨_, rfl⟩
         obtain ⟨c35, hc35⟩ : ∃ c1, c1 = co11 - (1 : Int).toNat := ⟨_, rfl⟩
         have hy35 : y759.length = t750.length - (1 : Int).toNat := (by rw [Ny759.out, List.length_drop] <;> omega)
         rw [show (t750).drop (1 : Int).toNat = y759 from Ny759.out.symm] at hr35
         replace hr35 : Kd.C Kd.string _ A35 y759.length y759 := (by rw [hA35]; exact hr35)
         rw [← hy35, ← hA35, ← hc35] at hcut35
         have HR762 := Aside0.mk hr35
         have HC762 := Aside0.mk (show y759.length ≤ c35 from by rw [hy35, hc35]; exact Nat.sub_le_sub_right hroom35 _)
         clear hr35 hC35 hroom35 hi035 hsz35 hc35
         have KY35 := Aside0.mk hy35
         have KA35 := Aside0.mk hA35
         clear hy35 hA35
         have KL35 := Aside0.mk (show 1 ≤ t750.length from by omega)
         replace q35 := eq_true q35
         go_wp2_with (first | ((with_reducible refine gate_callee (f := 36) rfl ?_); refine goesL_ (some 69) rfl rfl Try.func36 (by kernel_rfl) rfl #[.slice A35 y759.length c35] rfl (by (try simp only [List.map_toArray, List.map_cons, List.map_nil]); first | done | rfl | (simp only [List.length_drop, List.length_take]; rfl)) ?_; (with_reducible refine (name_Make.calls _ _ y759 t763 t764 _ ?side1 ?side2 A34.out).mono ?_); (case side1 => repeat (first | exact (by repeat (first | (with_reducible exact HR762.out) | (with_reducible refine Kd.C_alloc ?_ _) | (with_reducible refine Kd.C_drewN ?_ _) | (with_reducible refine Kd.C_drew ?_) | exact HR762.out)) | (with_reducible refine Kd.C_alloc ?_ _) | (with_reducible refine Kd.C_drewN ?_ _) | (with_reducible refine Kd.C_drew ?_))); (case side2 => exact HC762.out); rintro e w36 ⟨rfl, hb⟩; refine ⟨_, rfl, ?_⟩; have n0_ := Aside0.mk (Kd.R_below (by (with_reducible repeat (first | apply Kd.R_alloc | apply Kd.R_drewN | apply Kd.R_drew)); exact HO_3.out) hb); have n1_ := Aside0.mk (blk_below (g := gb749) (o := .cells #[.int .i64 0, .string (⟨#[]⟩ : ByteArray), .bool false, .slice none 0 0] 28 (0, 0)) (by (with_reducible repeat (first | refine blk_drewN ?_ _ | refine blk_drew ?_ | refine blk_alloc ?_ _)); exact BK749.out) hb); have n2_ := Aside0.mk (Kd.C_below (by repeat (first | (with_reducible exact HR762.out) | (with_reducible refine Kd.C_alloc ?_ _) | (with_reducible refine Kd.C_drewN ?_ _) | (with_reducible refine Kd.C_drew ?_) | exact HR762.out)) hb); have n3_ := Aside0.mk (below_step (by repeat (first | (with_reducible first | exact HB.out | apply below_alloc | apply pw_below_drewN | apply below_drew1 | refine below_set ?_ GE749.out) | exact HB.out)) hb); clear HO_3; clear BK749; clear HR762; clear HB; have HO_3 := n0_; have BK749 := n1_; have HR762 := n2_; have HB := n3_; clear n0_ n1_ n2_ n3_; (try clear hb); (try clear hb2); (try clear hk); (try clear hi); have hcz37_0 : w36.cell? ⟨gb749, 0, none⟩ = some (.int .i64 0) := (blk_cell BK749.out 0).trans rfl; have hcz37_1 : w36.cell? ⟨gb749, 1, none⟩ = some (.string (⟨#[]⟩ : ByteArray)) := (blk_cell BK749.out 1).trans rfl; have hcz37_2 : w36.cell? ⟨gb749, 2, none⟩ = some (.bool false) := (blk_cell BK749.out 2).trans rfl; have hcz37_3 : w36.cell? ⟨gb749, 3, none⟩ = some (.slice none 0 0) := (blk_cell BK749.out 3).trans rfl; have hfz37_0 := blk_frozen BK749.out 0; have hfz37_1 := blk_frozen BK749.out 1; have hfz37_2 := blk_frozen BK749.out 2; have hfz37_3 := blk_frozen BK749.out 3))
         refine bodyPost_ret (results_cell_row rfl _ _ gb749 28 #[.int .i64 7, .string t763, .bool true, .slice none 0 0] (0, 0) _ rfl (by (with_reducible repeat (first | refine blk_drewN ?_ _ | refine blk_drew ?_ | refine blk_alloc ?_ _)); refine blk_put (cs := #[.int .i64 7, .string t763, .bool true, .slice none 0 0]) ?_ 3 _ rfl; (with_reducible repeat (first | refine blk_drewN ?_ _ | refine blk_drew ?_ | refine blk_alloc ?_ _)); refine blk_put (cs := #[.int .i64 7, .string t763, .bool false, .slice none 0 0]) ?_ 2 _ rfl; (with_reducible repeat (first | refine blk_drewN ?_ _ | refine blk_drew ?_ | refine blk_alloc ?_ _)); refine blk_put (cs := #[.int .i64 7, .string (⟨#[]⟩ : ByteArray), .bool false, .slice none 0 0]) ?_ 1 _ rfl; (with_reducible repeat (first | refine blk_drewN ?_ _ | refine blk_drew ?_ | refine blk_alloc ?_ _)); refine blk_put (cs := #[.int .i64 0, .string (⟨#[]⟩ : ByteArray), .bool false, .slice none 0 0]) ?_ 0 _ rfl; (with_reducible repeat (first | refine blk_drewN ?_ _ | refine blk_drew ?_ | refine blk_alloc ?_ _)); exact BK749.out) Try.underlying28 rfl (by kernel_rfl)) rfl ?_
         exact ⟨_, by first | rfl | (simp [errW_none, errW_some] <;> rfl) | (simp [*, errW_none, errW_some] <;> rfl), by first | exact Kd.R_nil _ _ _ _ _ | exact Kd.N_nil _ _ _ _ _ | exact Kd.V_nil _ _ _ _ _ | exact Kd.Q_nil _ _ _ _ _ | exact Kd.S_nil _ _ _ _ _, by repeat (first | (with_reducible first | exact HB.out | apply below_alloc | apply pw_below_drewN | apply below_drew1 | refine below_set ?_ GE749.out) | exact HB.out)⟩

end Go.Proofs.Ytdkjlbbbdjkhbaa.PAll
