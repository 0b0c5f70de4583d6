-- Written by a program of this session (wip/tools/drive.py over the kit's printer): functions, contracts and rows (All).
import Derived.Test.YtdkjlbbbdjkhbaaPAllx0
import Derived.Test.YtdkjlbbbdjkhbaaPAllx33
namespace Go.Proofs.Ytdkjlbbbdjkhbaa.PAll
open Go.RowKit Go.Proofs.YtdkjlbbbdjkhbaaW.PrintWords Go.Proofs.YtdkjlbbbdjkhbaaW.PrintLast Go.Proofs.YtdkjlbbbdjkhbaaW.PrintMore
attribute [local go_sem] max2_int min2_int max_two min_two max_three min_three max_four min_four   -- for this text's walks alone
open Go.Proofs.Ytdkjlbbbdjkhbaa.Hand
set_option linter.unusedVariables false
set_option linter.unusedSimpArgs false

/-! ### bolterlaw05_Records: function 21 -/
def bolterlaw05_Records.l0 : Nat → Int → List (S43) → List (S86) → Int → Int → Option ((List (S43)))
  | 0, _, _, _, _, _ => none
  | k + 1, x1, x5, x8, x9, x10 => if x10 < x9 then (if 0 ≤ x10 then (if x10 < (x8.length : Int) then (if x10 < x1 then ((bolterlaw05_Record.f k ((rd_T86 x8 x10).f0) ((rd_T86 x8 x10).f1) ((rd_T86 x8 x10).f2) ((rd_T86 x8 x10).f3) ((rd_T86 x8 x10).f4)).bind fun bt448 => (if x5.length < 3518437208883 then (bolterlaw05_Records.l0 k x1 (x5 ++ [(⟨bt448.1, bt448.2.1, bt448.2.2.1, bt448.2.2.2⟩ : S43)]) x8 x9 (wrap64 (x10 + 1))) else (none))) else (bolterlaw05_Records.l0 k x1 x5 x8 x9 (wrap64 (x10 + 1)))) else (none)) else (none)) else (some x5)
def bolterlaw05_Records.f (k : Nat) (l0 : List (S86)) (a1 : Int) : Option ((List (S43))) := bolterlaw05_Records.l0 k a1 ([] : List (S43)) l0 (l0.length : Int) 0
theorem bolterlaw05_Records.mono_l : ∀ k, (∀ y0 y1 y2 y3 y4, LeO (bolterlaw05_Records.l0 k y0 y1 y2 y3 y4) (bolterlaw05_Records.l0 (k + 1) y0 y1 y2 y3 y4))
  | 0 => fun _ _ _ _ _ r h => by simp [bolterlaw05_Records.l0] at h
  | k + 1 => by
    have ih0 := bolterlaw05_Records.mono_l k
    · intro y0 y1 y2 y3 y4
      unfold bolterlaw05_Records.l0
      repeat' first
      | (with_reducible exact ih0 _ _ _ _ _)
      | (with_reducible exact bolterlaw05_Record.mono _ _ _ _ _ _)
      | (with_reducible exact LeO.refl _)
      | (with_reducible exact LeO.none _)
      | (with_reducible refine LeO.ite ?_ ?_)
      | (with_reducible refine LeO.bind ?_ (fun _ => ?_))
      | exact ih0 _ _ _ _ _
      | exact bolterlaw05_Record.mono _ _ _ _ _ _
      | exact LeO.none _
      | refine LeO.ite ?_ ?_
      | refine LeO.bind ?_ (fun _ => ?_)
theorem bolterlaw05_Records.mono : ∀ a0 a1 k, LeO (bolterlaw05_Records.f k a0 a1) (bolterlaw05_Records.f (k + 1) a0 a1) := by
  intro a0 a1 k
  have ih0 := bolterlaw05_Records.mono_l k
  unfold bolterlaw05_Records.f
  repeat' first
      | (with_reducible exact ih0 _ _ _ _ _)
      | (with_reducible exact bolterlaw05_Record.mono _ _ _ _ _ _)
      | (with_reducible exact LeO.refl _)
      | (with_reducible exact LeO.none _)
      | (with_reducible refine LeO.ite ?_ ?_)
      | (with_reducible refine LeO.bind ?_ (fun _ => ?_))
      | exact ih0 _ _ _ _ _
      | exact bolterlaw05_Record.mono _ _ _ _ _ _
      | exact LeO.none _
      | refine LeO.ite ?_ ?_
      | refine LeO.bind ?_ (fun _ => ?_)
set_option maxHeartbeats 8000000 in
set_option maxRecDepth 100000 in
theorem bolterlaw05_Records.calls (k : Nat) (A0 : Option Addr) (c0 : Nat) (l0 : List (S86)) (a1 : Int) (r : List (S43)) (w : World) (hr0 : Kd.C k86 w A0 l0.length l0) (hc0 : l0.length ≤ c0) (h : bolterlaw05_Records.f k l0 a1 = some r) :
    Calls Try.prog 21 #[.slice A0 l0.length c0, .int .i64 a1] w fun e w' => ∃ v0_ : Value, e = .returned (v0_) ∧ Kd.R k43 43 w' w.heap.size (fun _ => True) v0_ r ∧ Below w.heap.size w w' := by
  have hu86 := Try.underlying86
  have HR0 := Aside0.mk hr0
  have HC0 := Aside0.mk hc0
  clear hr0 hc0
  have HB := Aside0.mk (Below.refl w.heap.size w)
  have H : (bolterlaw05_Records.l0 k a1 ([] : List (S43)) l0 (l0.length : Int) 0) = some r := h
  clear h
  have H' := Aside0.mk H
  clear H
  go_enter Try.func21, Try.ntmps21
  go_wp2
  go_loopg [5, 10] k (fun kq v5 v10 w' => ∃ (x5_1 : List (S43)) (x10_1 : Int), v10 = .int .i64 x10_1 ∧ Aside0 (bolterlaw05_Records.l0 kq a1 x5_1 l0 (l0.length : Int) x10_1 = some r) ∧ Aside0 (kq ≤ k) ∧ Aside0 (Kd.R k43 43 w' w.heap.size (fun _ => True) v5 x5_1) ∧ Aside0 (Below w.heap.size w w'))
  case atStart => exact ⟨(([] : List (S43))), (0), (by first | rfl | (simp; done) | (simp [*]; done)), H', ⟨Nat.le_refl _⟩, ⟨by first | exact Kd.R_nil _ _ _ _ _ | exact Kd.N_nil _ _ _ _ _ | exact Kd.V_nil _ _ _ _ _ | exact Kd.Q_nil _ _ _ _ _ | exact Kd.S_nil _ _ _ _ _⟩, ⟨by repeat (first | (with_reducible first | exact HB.out | apply below_alloc | apply pw_below_drewN | apply below_drew1) | exact HB.out)⟩⟩
  case round =>
    clear H'
    try clear c2
    try clear p2
    obtain ⟨x5_1, x10_1, rfl, HA, HK1, HO_5, HB⟩ := hrel
    cases gk with
    | zero => exact absurd HA.out (by simp [bolterlaw05_Records.l0])
    | succ k1 =>
      have H := HA.out
      clear HA
      simp only [bolterlaw05_Records.l0] at H
      by_cases c3 : x10_1 < (l0.length : Int)
      · rw [if_pos c3] at H
        have c3b0 : decide (x10_1 < (l0.length : Int)) = true := decide_eq_true c3
        clear c3
        by_cases c4 : 0 ≤ x10_1
        · rw [if_pos c4] at H
          have c4b0 : decide (0 ≤ x10_1) = true := decide_eq_true c4
          clear c4
          by_cases c5 : x10_1 < (l0.length : Int)
          · rw [if_pos c5] at H
            have c5b0 : decide (x10_1 < (l0.length : Int)) = true := decide_eq_true c5
            clear c5
            by_cases c6 : x10_1 < a1
            · rw [if_pos c6] at H
              have c6b0 : decide (x10_1 < a1) = true := decide_eq_true c6
              clear c6
              replace H := Option.bind_eq_some_iff.mp H
              obtain ⟨⟨t448, t449, t450, t451⟩, A70, H⟩ := H
              replace H : (if x5_1.length < 3518437208883 then (bolterlaw05_Records.l0 k1 a1 (x5_1 ++ [(⟨t448, t449, t450, t451⟩ : S43)]) l0 (l0.length : Int) (wrap64 (x10_1 + 1))) else (none)) = some r := H
              have A7 := Aside0.mk A70
              clear A70
              by_cases c8 : x5_1.length < 3518437208883
              · rw [if_pos c8] at H
                have LMc8 := Aside0.mk c8
                clear c8
                obtain ⟨y452, hy452⟩ : ∃ y_ : List (S43), y_ = (x5_1 ++ [(⟨t448, t449, t450, t451⟩ : S43)]) := ⟨_, rfl⟩
                replace H : (bolterlaw05_Records.l0 k1 a1 y452 l0 (l0.length : Int) (wrap64 (x10_1 + 1))) = some r := by first | (rw [hy452]; with_reducible exact H) | (have H2_ := (Option.bind_some _ _).symm.trans H; rw [hy452]; with_reducible exact H2_) | (have H2_ := (Option.bind_some _ _).symm.trans H; with_reducible exact H2_) | with_reducible exact H | (rw [hy452]; exact H) | exact H
                have Ny452 := Aside0.mk hy452
                clear hy452
                have H' := Aside0.mk H
                clear H
                have p446 : 0 ≤ (x10_1 : Int) := of_decide_eq_true (by first | (with_reducible assumption) | assumption)
                have q446 : x10_1 < (l0.length : Int) := of_decide_eq_true (by first | (with_reducible assumption) | assumption)
                obtain ⟨ad446, A446_0, c446_0, A446_3, c446_3, e446, hx446_0, hx446_1, hx446_2, hx446_3, hx446_4, hl446_0, hi446_0, hl446_3, hi446_3⟩ := at_T86 HR0.out x10_1 p446 q446
                cases e446
                replace hx446_0 := (HB.out.cell (World.block_lt_of_cell? w _ hx446_0)).trans hx446_0
                replace hx446_1 := (HB.out.cell (World.block_lt_of_cell? w _ hx446_1)).trans hx446_1
                replace hx446_2 := (HB.out.cell (World.block_lt_of_cell? w _ hx446_2)).trans hx446_2
                replace hx446_3 := (HB.out.cell (World.block_lt_of_cell? w _ hx446_3)).trans hx446_3
                replace hx446_4 := (HB.out.cell (World.block_lt_of_cell? w _ hx446_4)).trans hx446_4
                have HR446_0 := Aside0.mk hi446_0
                have HC446_0 := Aside0.mk hl446_0
                clear hi446_0 hl446_0
                have HR446_3 := Aside0.mk hi446_3
                have HC446_3 := Aside0.mk hl446_3
                clear hi446_3 hl446_3
                replace p446 := eq_true p446
                replace q446 := eq_true q446
                go_wp2_with (first | ((with_reducible refine gate_dst (N := 7) rfl ?_); refine box_event ?hg (N := 7) ?hd (cs := #[.slice none 0 0, .int .u8 0, .int .u32 0, .slice none 0 0, .string (⟨#[]⟩ : ByteArray)]) (t := 86) ?hr ?_; (case hd => rfl); (case hg => rfl); (case hr => first | (go_simp; done) | (go_simp; rfl)); intro gb447 hg w9 hbox hb; have n0_ := Aside0.mk (Kd.R_below (by (with_reducible repeat (first | apply Kd.R_alloc | apply Kd.R_drewN | apply Kd.R_drew)); exact HO_5.out) hb); have n1_ := Aside0.mk (below_step (by repeat (first | (with_reducible first | exact HB.out | apply below_alloc | apply pw_below_drewN | apply below_drew1) | exact HB.out)) hb); have n2_ := Aside0.mk (hbox); have n3_ := Aside0.mk ((by rw [hg]; exact (below_size (by repeat (first | (with_reducible first | exact HB.out | apply below_alloc | apply pw_below_drewN | apply below_drew1) | exact HB.out))) : w.heap.size ≤ gb447)); have n4_ := Aside0.mk ((by rw [hg]; exact (below_size (by repeat (first | (with_reducible first | exact HB.out | apply below_alloc | apply pw_below_drewN | apply below_drew1) | exact HB.out))) : w.heap.size ≤ gb447)); clear HO_5; clear HB; have HO_5 := n0_; have HB := n1_; have BK447 := n2_; have GW447 := n3_; have GE447 := n4_; clear n0_ n1_ n2_ n3_ n4_; clear hb hbox hg; have hcz10_0 : w9.cell? ⟨gb447, 0, none⟩ = some (.slice none 0 0) := (blk_cell BK447.out 0).trans rfl; have hcz10_1 : w9.cell? ⟨gb447, 1, none⟩ = some (.int .u8 0) := (blk_cell BK447.out 1).trans rfl; have hcz10_2 : w9.cell? ⟨gb447, 2, none⟩ = some (.int .u32 0) := (blk_cell BK447.out 2).trans rfl; have hcz10_3 : w9.cell? ⟨gb447, 3, none⟩ = some (.slice none 0 0) := (blk_cell BK447.out 3).trans rfl; have hcz10_4 : w9.cell? ⟨gb447, 4, none⟩ = some (.string (⟨#[]⟩ : ByteArray)) := (blk_cell BK447.out 4).trans rfl; have hfz10_0 := blk_frozen BK447.out 0; have hfz10_1 := blk_frozen BK447.out 1; have hfz10_2 := blk_frozen BK447.out 2; have hfz10_3 := blk_frozen BK447.out 3; have hfz10_4 := blk_frozen BK447.out 4) | ((with_reducible refine gate_callee (f := 41) rfl ?_); refine goesL_ (some 20) rfl rfl Try.func41 (by kernel_rfl) rfl #[.agg #[.slice A446_0 ((rd_T86 l0 x10_1).f0).length c446_0, .int .u8 ((rd_T86 l0 x10_1).f1), .int .u32 ((rd_T86 l0 x10_1).f2), .slice A446_3 ((rd_T86 l0 x10_1).f3).length c446_3, .string ((rd_T86 l0 x10_1).f4)]] rfl (by (try simp only [List.map_toArray, List.map_cons, List.map_nil]); first | done | rfl | (simp only [List.length_drop, List.length_take]; rfl)) ?_; (with_reducible refine (bolterlaw05_Record.calls k1 _ _ ((rd_T86 l0 x10_1).f0) ((rd_T86 l0 x10_1).f1) ((rd_T86 l0 x10_1).f2) _ _ ((rd_T86 l0 x10_1).f3) ((rd_T86 l0 x10_1).f4) t448 t449 t450 t451 _ ?side1 ?side2 ?side3 ?side4 A7.out).mono ?_); (case side1 => exact Kd.C_below HR446_0.out (by repeat (first | (with_reducible first | exact HB.out | apply below_alloc | apply pw_below_drewN | apply below_drew1 | refine below_set ?_ GE447.out) | exact HB.out))); (case side2 => exact HC446_0.out); (case side3 => exact Kd.C_below HR446_3.out (by repeat (first | (with_reducible first | exact HB.out | apply below_alloc | apply pw_below_drewN | apply below_drew1 | refine below_set ?_ GE447.out) | exact HB.out))); (case side4 => exact HC446_3.out); rintro e w11 ⟨rfl, hb⟩; refine ⟨_, rfl, ?_⟩; have n0_ := Aside0.mk (Kd.R_below (by (with_reducible repeat (first | apply Kd.R_alloc | apply Kd.R_drewN | apply Kd.R_drew)); exact (Kd.R_mono (Kd.R_far (p := ⟨gb447, 4, none⟩) (Kd.R_far (p := ⟨gb447, 3, none⟩) (Kd.R_far (p := ⟨gb447, 2, none⟩) (Kd.R_far (p := ⟨gb447, 1, none⟩) (Kd.R_far (p := ⟨gb447, 0, none⟩) (Kd.R_types HO_5.out BK447.out (by decide)) (fun _ hk => hk.2) (.slice A446_0 ((rd_T86 l0 x10_1).f0).length c446_0)) (fun _ hk => hk.2) (.int .u8 ((rd_T86 l0 x10_1).f1))) (fun _ hk => hk.2) (.int .u32 ((rd_T86 l0 x10_1).f2))) (fun _ hk => hk.2) (.slice A446_3 ((rd_T86 l0 x10_1).f3).length c446_3)) (fun _ hk => hk.2) (.string ((rd_T86 l0 x10_1).f4))) (fun _ h_ => h_.1))) hb); have n1_ := Aside0.mk (blk_below (g := gb447) (o := .cells #[.slice A446_0 ((rd_T86 l0 x10_1).f0).length c446_0, .int .u8 ((rd_T86 l0 x10_1).f1), .int .u32 ((rd_T86 l0 x10_1).f2), .slice A446_3 ((rd_T86 l0 x10_1).f3).length c446_3, .string ((rd_T86 l0 x10_1).f4)] 86 (0, 0)) (by (with_reducible repeat (first | refine blk_drewN ?_ _ | refine blk_drew ?_ | refine blk_alloc ?_ _)); refine blk_put (cs := #[.slice A446_0 ((rd_T86 l0 x10_1).f0).length c446_0, .int .u8 ((rd_T86 l0 x10_1).f1), .int .u32 ((rd_T86 l0 x10_1).f2), .slice A446_3 ((rd_T86 l0 x10_1).f3).length c446_3, .string (⟨#[]⟩ : ByteArray)]) ?_ 4 _ rfl; (with_reducible repeat (first | refine blk_drewN ?_ _ | refine blk_drew ?_ | refine blk_alloc ?_ _)); refine blk_put (cs := #[.slice A446_0 ((rd_T86 l0 x10_1).f0).length c446_0, .int .u8 ((rd_T86 l0 x10_1).f1), .int .u32 ((rd_T86 l0 x10_1).f2), .slice none 0 0, .string (⟨#[]⟩ : ByteArray)]) ?_ 3 _ rfl; (with_reducible repeat (first | refine blk_drewN ?_ _ | refine blk_drew ?_ | refine blk_alloc ?_ _)); refine blk_put (cs := #[.slice A446_0 ((rd_T86 l0 x10_1).f0).length c446_0, .int .u8 ((rd_T86 l0 x10_1).f1), .int .u32 0, .slice none 0 0, .string (⟨#[]⟩ : ByteArray)]) ?_ 2 _ rfl; (with_reducible repeat (first | refine blk_drewN ?_ _ | refine blk_drew ?_ | refine blk_alloc ?_ _)); refine blk_put (cs := #[.slice A446_0 ((rd_T86 l0 x10_1).f0).length c446_0, .int .u8 0, .int .u32 0, .slice none 0 0, .string (⟨#[]⟩ : ByteArray)]) ?_ 1 _ rfl; (with_reducible repeat (first | refine blk_drewN ?_ _ | refine blk_drew ?_ | refine blk_alloc ?_ _)); refine blk_put (cs := #[.slice none 0 0, .int .u8 0, .int .u32 0, .slice none 0 0, .string (⟨#[]⟩ : ByteArray)]) ?_ 0 _ rfl; (with_reducible repeat (first | refine blk_drewN ?_ _ | refine blk_drew ?_ | refine blk_alloc ?_ _)); exact BK447.out) hb); have n2_ := Aside0.mk (below_step (by repeat (first | (with_reducible first | exact HB.out | apply below_alloc | apply pw_below_drewN | apply below_drew1 | refine below_set ?_ GE447.out) | exact HB.out)) hb); clear HO_5; clear BK447; clear HB; have HO_5 := n0_; have BK447 := n1_; have HB := n2_; clear n0_ n1_ n2_; (try clear hb); (try clear hb2); (try clear hk); (try clear hi)) | ((with_reducible refine gate_builtin (b := .append) (xs := #[.tmp 18, .tmp 21]) rfl ?_); at_builtin; refine Kd.R_append k43 (w0 := w) w.heap.size rfl (.tmp 18) (.tmp 21) 26 43 (.agg #[(.string ⟨#[]⟩), (.int .u16 0), (.int .u32 0), (.string ⟨#[]⟩)]) 40 rfl Try.underlying26 info43 rfl (by decide) (by omega) u5 x5_1 (⟨t448, t449, t450, t451⟩ : S43) [.string t448, .int .u16 t449, .int .u32 t450, .string t451] (fun _ => True) (fun _ => False) rfl rfl ?aP (fun _ hk => hk.elim) ?aF ?aO ?aB ?aS ?aL ?_; (case aP => exact k43_mkM _ _ _ (⟨t448, t449, t450, t451⟩ : S43)); (case aB => exact (by repeat (first | (with_reducible first | exact HB.out | apply below_alloc | apply pw_below_drewN | apply below_drew1 | refine below_set ?_ GE447.out) | exact HB.out))); (case aF => exact (fun _ _ => trivial)); (case aO => exact (by (with_reducible repeat (first | apply Kd.R_alloc | apply Kd.R_drewN | apply Kd.R_drew)); exact HO_5.out)); (case aS => exact (below_size (by repeat (first | (with_reducible first | exact HB.out | apply below_alloc | apply pw_below_drewN | apply below_drew1 | refine below_set ?_ GE447.out) | exact HB.out)))); (case aL => have := LMc8.out; omega); intro v453 w12 ho hb hg hat; rw [← Ny452.out] at ho; have n0_ := Aside0.mk (blk_grown (g := gb447) (o := .cells #[.slice A446_0 ((rd_T86 l0 x10_1).f0).length c446_0, .int .u8 ((rd_T86 l0 x10_1).f1), .int .u32 ((rd_T86 l0 x10_1).f2), .slice A446_3 ((rd_T86 l0 x10_1).f3).length c446_3, .string ((rd_T86 l0 x10_1).f4)] 86 (0, 0)) (by (with_reducible repeat (first | refine blk_drewN ?_ _ | refine blk_drew ?_ | refine blk_alloc ?_ _)); exact BK447.out) hg (Kd.R_ne HO_5.out BK447.out (by decide))); have n1_ := Aside0.mk (hb); have n2_ := Aside0.mk (ho); clear BK447; clear HB; clear HO_5; have BK447 := n0_; have HB := n1_; have HO454 := n2_; clear n0_ n1_ n2_; clear ho hb hg hat))
                go_roundg k1
                case measure => have := HK1.out; omega
                case rel => exact ⟨(y452), (wrap64 (x10_1 + 1)), (by first | rfl | (simp; done) | (simp [*]; done)), H', ⟨by have := HK1.out; omega⟩, ⟨by (with_reducible repeat (first | apply Kd.R_alloc | apply Kd.R_drewN | apply Kd.R_drew)); exact HO454.out⟩, ⟨by repeat (first | (with_reducible first | exact HB.out | apply below_alloc | apply pw_below_drewN | apply below_drew1 | refine below_set ?_ GE447.out) | exact HB.out)⟩⟩
              · rw [if_neg c8] at H
                exact absurd H (by simp)
            · rw [if_neg c6] at H
              have c6b0 : decide (x10_1 < a1) = false := decide_eq_false c6
              clear c6
              have H' := Aside0.mk H
              clear H
              have p446 : 0 ≤ (x10_1 : Int) := of_decide_eq_true (by first | (with_reducible assumption) | assumption)
              have q446 : x10_1 < (l0.length : Int) := of_decide_eq_true (by first | (with_reducible assumption) | assumption)
              obtain ⟨ad446, A446_0, c446_0, A446_3, c446_3, e446, hx446_0, hx446_1, hx446_2, hx446_3, hx446_4, hl446_0, hi446_0, hl446_3, hi446_3⟩ := at_T86 HR0.out x10_1 p446 q446
              cases e446
              replace hx446_0 := (HB.out.cell (World.block_lt_of_cell? w _ hx446_0)).trans hx446_0
              replace hx446_1 := (HB.out.cell (World.block_lt_of_cell? w _ hx446_1)).trans hx446_1
              replace hx446_2 := (HB.out.cell (World.block_lt_of_cell? w _ hx446_2)).trans hx446_2
              replace hx446_3 := (HB.out.cell (World.block_lt_of_cell? w _ hx446_3)).trans hx446_3
              replace hx446_4 := (HB.out.cell (World.block_lt_of_cell? w _ hx446_4)).trans hx446_4
              have HR446_0 := Aside0.mk hi446_0
              have HC446_0 := Aside0.mk hl446_0
              clear hi446_0 hl446_0
              have HR446_3 := Aside0.mk hi446_3
              have HC446_3 := Aside0.mk hl446_3
              clear hi446_3 hl446_3
              replace p446 := eq_true p446
              replace q446 := eq_true q446
              go_wp2_with (first | ((with_reducible refine gate_dst (N := 7) rfl ?_); refine box_event ?hg (N := 7) ?hd (cs := #[.slice none 0 0, .int .u8 0, .int .u32 0, .slice none 0 0, .string (⟨#[]⟩ : ByteArray)]) (t := 86) ?hr ?_; (case hd => rfl); (case hg => rfl); (case hr => first | (go_simp; done) | (go_simp; rfl)); intro gb447 hg w13 hbox hb; have n0_ := Aside0.mk (Kd.R_below (by (with_reducible repeat (first | apply Kd.R_alloc | apply Kd.R_drewN | apply Kd.R_drew)); exact HO_5.out) hb); have n1_ := Aside0.mk (below_step (by repeat (first | (with_reducible first | exact HB.out | apply below_alloc | apply pw_below_drewN | apply below_drew1) | exact HB.out)) hb); have n2_ := Aside0.mk (hbox); have n3_ := Aside0.mk ((by rw [hg]; exact (below_size (by repeat (first | (with_reducible first | exact HB.out | apply below_alloc | apply pw_below_drewN | apply below_drew1) | exact HB.out))) : w.heap.size ≤ gb447)); have n4_ := Aside0.mk ((by rw [hg]; exact (below_size (by repeat (first | (with_reducible first | exact HB.out | apply below_alloc | apply pw_below_drewN | apply below_drew1) | exact HB.out))) : w.heap.size ≤ gb447)); clear HO_5; clear HB; have HO_5 := n0_; have HB := n1_; have BK447 := n2_; have GW447 := n3_; have GE447 := n4_; clear n0_ n1_ n2_ n3_ n4_; clear hb hbox hg; have hcz14_0 : w13.cell? ⟨gb447, 0, none⟩ = some (.slice none 0 0) := (blk_cell BK447.out 0).trans rfl; have hcz14_1 : w13.cell? ⟨gb447, 1, none⟩ = some (.int .u8 0) := (blk_cell BK447.out 1).trans rfl; have hcz14_2 : w13.cell? ⟨gb447, 2, none⟩ = some (.int .u32 0) := (blk_cell BK447.out 2).trans rfl; have hcz14_3 : w13.cell? ⟨gb447, 3, none⟩ = some (.slice none 0 0) := (blk_cell BK447.out 3).trans rfl; have hcz14_4 : w13.cell? ⟨gb447, 4, none⟩ = some (.string (⟨#[]⟩ : ByteArray)) := (blk_cell BK447.out 4).trans rfl; have hfz14_0 := blk_frozen BK447.out 0; have hfz14_1 := blk_frozen BK447.out 1; have hfz14_2 := blk_frozen BK447.out 2; have hfz14_3 := blk_frozen BK447.out 3; have hfz14_4 := blk_frozen BK447.out 4))
              go_roundg k1
              case measure => have := HK1.out; omega
              case rel => exact ⟨(x5_1), (wrap64 (x10_1 + 1)), (by first | rfl | (simp; done) | (simp [*]; done)), H', ⟨by have := HK1.out; omega⟩, ⟨by (with_reducible repeat (first | apply Kd.R_alloc | apply Kd.R_drewN | apply Kd.R_drew)); exact Kd.R_mono (Kd.R_far (p := ⟨gb447, 4, none⟩) (Kd.R_far (p := ⟨gb447, 3, none⟩) (Kd.R_far (p := ⟨gb447, 2, none⟩) (Kd.R_far (p := ⟨gb447, 1, none⟩) (Kd.R_far (p := ⟨gb447, 0, none⟩) (Kd.R_types HO_5.out BK447.out (by decide)) (fun _ hk => hk.2) (.slice A446_0 ((rd_T86 l0 x10_1).f0).length c446_0)) (fun _ hk => hk.2) (.int .u8 ((rd_T86 l0 x10_1).f1))) (fun _ hk => hk.2) (.int .u32 ((rd_T86 l0 x10_1).f2))) (fun _ hk => hk.2) (.slice A446_3 ((rd_T86 l0 x10_1).f3).length c446_3)) (fun _ hk => hk.2) (.string ((rd_T86 l0 x10_1).f4))) (fun _ hk => trivial)⟩, ⟨by repeat (first | (with_reducible first | exact HB.out | apply below_alloc | apply pw_below_drewN | apply below_drew1 | refine below_set ?_ GE447.out) | exact HB.out)⟩⟩
          · rw [if_neg c5] at H
            exact absurd H (by simp)
        · rw [if_neg c4] at H
          exact absurd H (by simp)
      · rw [if_neg c3] at H
        have c3b0 : decide (x10_1 < (l0.length : Int)) = false := decide_eq_false c3
        clear c3
        obtain rfl := Option.some.inj H
        go_wp2
        go_ret
        exact ⟨_, by first | rfl | (simp [errW_none, errW_some] <;> rfl) | (simp [*, errW_none, errW_some] <;> rfl), by (with_reducible repeat (first | apply Kd.R_alloc | apply Kd.R_drewN | apply Kd.R_drew)); exact HO_5.out, by repeat (first | (with_reducible first | exact HB.out | apply below_alloc | apply pw_below_drewN | apply below_drew1) | exact HB.out)⟩

end Go.Proofs.Ytdkjlbbbdjkhbaa.PAll
