-- Written by a program of this session (wip/tools/drive.py over the kit's printer): functions, contracts and rows (All).
import Derived.Test.YtdkjlbbbdjkhbaaPAllx0
import Derived.Test.YtdkjlbbbdjkhbaaPAllx21
import Derived.Test.YtdkjlbbbdjkhbaaPAllx22
import Derived.Test.YtdkjlbbbdjkhbaaPAllx23
namespace Go.Proofs.Ytdkjlbbbdjkhbaa.PAll
open Go.RowKit Go.Proofs.YtdkjlbbbdjkhbaaW.PrintWords Go.Proofs.YtdkjlbbbdjkhbaaW.PrintLast Go.Proofs.YtdkjlbbbdjkhbaaW.PrintMore
attribute [local go_sem] max2_int min2_int max_two min_two max_three min_three max_four min_four   -- for this text's walks alone
open Go.Proofs.Ytdkjlbbbdjkhbaa.Hand
set_option linter.unusedVariables false
set_option linter.unusedSimpArgs false

/-! ### bolterlaw21_ReplyChanges: function 11 -/
def bolterlaw21_ReplyChanges.j0 : Nat → Bool → Int → Int → Bool → Int → Bool → Int → Bool → Bool → Bool → Bool → Int → ByteArray → Int → List (S43) → List (S43) → List (S43) → Int → Option (Bool)
  | 0, _, _, _, _, _, _, _, _, _, _, _, _, _, _, _, _, _, _ => none
  | k + 1, x1, x2, x9, x10, x292000, x292001, x292002, x292003, x292004, x292005, x292006, x292007, x292008, x292009, x292010, x292011, x292012, x292013 => if x1 = true then ((reply_Changes.f k x9 (⟨#[]⟩ : ByteArray) false ([] : List (S43)) x1).bind fun t293 => (if (t293 == x10) = true then ((reply_Limit.f x292000 x292001 x292002 x292003 x292004 x292005 x292006 x292007 x292008 x292009 x292010 x292011 x292012 x2 x1).bind fun t294 => (some (t294 == 4096))) else (some false))) else ((reply_Changes.f k x9 (⟨#[]⟩ : ByteArray) false ([] : List (S43)) x1).bind fun t295 => (if (t295 == x10) = true then ((reply_Limit.f x292000 x292001 x292002 x292003 x292004 x292005 x292006 x292007 x292008 x292009 x292010 x292011 x292012 x2 x1).bind fun t296 => (some (t296 == (mn (mx 512 x2) 4096)))) else (some false)))
def bolterlaw21_ReplyChanges.f (k : Nat) (a0 : Int) (a1 : Bool) (a2 : Int) (a3_0 : Int) (a3_1 : Bool) (a3_2 : Int) (a3_3 : Bool) (a3_4 : Bool) (a3_5 : Bool) (a3_6 : Bool) (a3_7 : Int) (a3_8 : ByteArray) (a3_9 : Int) (l3_10 : List (S43)) (l3_11 : List (S43)) (l3_12 : List (S43)) (a3_13 : Int) : Option (Bool) := (bolterlaw21_awake.f k).bind fun t292 => (if t292 = true then (if a0 = 3 then (bolterlaw21_ReplyChanges.j0 k a1 a2 a0 true a3_0 a3_1 a3_2 a3_3 a3_4 a3_5 a3_6 a3_7 a3_8 a3_9 l3_10 l3_11 l3_12 a3_13) else (if a0 = 4 then (bolterlaw21_ReplyChanges.j0 k a1 a2 a0 true a3_0 a3_1 a3_2 a3_3 a3_4 a3_5 a3_6 a3_7 a3_8 a3_9 l3_10 l3_11 l3_12 a3_13) else (if a0 = 5 then (bolterlaw21_ReplyChanges.j0 k a1 a2 a0 true a3_0 a3_1 a3_2 a3_3 a3_4 a3_5 a3_6 a3_7 a3_8 a3_9 l3_10 l3_11 l3_12 a3_13) else (if a0 = 7 then (bolterlaw21_ReplyChanges.j0 k a1 a2 a0 true a3_0 a3_1 a3_2 a3_3 a3_4 a3_5 a3_6 a3_7 a3_8 a3_9 l3_10 l3_11 l3_12 a3_13) else (if a0 = 8 then (bolterlaw21_ReplyChanges.j0 k a1 a2 a0 true a3_0 a3_1 a3_2 a3_3 a3_4 a3_5 a3_6 a3_7 a3_8 a3_9 l3_10 l3_11 l3_12 a3_13) else (if a0 = 6 then (bolterlaw21_ReplyChanges.j0 k a1 a2 a0 (!a1) a3_0 a3_1 a3_2 a3_3 a3_4 a3_5 a3_6 a3_7 a3_8 a3_9 l3_10 l3_11 l3_12 a3_13) else (bolterlaw21_ReplyChanges.j0 k a1 a2 a0 false a3_0 a3_1 a3_2 a3_3 a3_4 a3_5 a3_6 a3_7 a3_8 a3_9 l3_10 l3_11 l3_12 a3_13))))))) else (some false))
theorem bolterlaw21_ReplyChanges.mono_l : ∀ k, (∀ y0 y1 y2 y3 y4 y5 y6 y7 y8 y9 y10 y11 y12 y13 y14 y15 y16 y17, LeO (bolterlaw21_ReplyChanges.j0 k y0 y1 y2 y3 y4 y5 y6 y7 y8 y9 y10 y11 y12 y13 y14 y15 y16 y17) (bolterlaw21_ReplyChanges.j0 (k + 1) y0 y1 y2 y3 y4 y5 y6 y7 y8 y9 y10 y11 y12 y13 y14 y15 y16 y17))
  | 0 => fun _ _ _ _ _ _ _ _ _ _ _ _ _ _ _ _ _ _ r h => by simp [bolterlaw21_ReplyChanges.j0] at h
  | k + 1 => by
    have ih0 := bolterlaw21_ReplyChanges.mono_l k
    · intro y0 y1 y2 y3 y4 y5 y6 y7 y8 y9 y10 y11 y12 y13 y14 y15 y16 y17
      unfold bolterlaw21_ReplyChanges.j0
      repeat' first
      | (with_reducible exact ih0 _ _ _ _ _ _ _ _ _ _ _ _ _ _ _ _ _ _)
      | (with_reducible exact bolterlaw21_awake.mono _)
      | (with_reducible exact reply_Changes.mono _ _ _ _ _ _)
      | (with_reducible exact LeO.refl _)
      | (with_reducible exact LeO.none _)
      | (with_reducible refine LeO.ite ?_ ?_)
      | (with_reducible refine LeO.bind ?_ (fun _ => ?_))
      | exact ih0 _ _ _ _ _ _ _ _ _ _ _ _ _ _ _ _ _ _
      | exact bolterlaw21_awake.mono _
      | exact reply_Changes.mono _ _ _ _ _ _
      | exact LeO.none _
      | refine LeO.ite ?_ ?_
      | refine LeO.bind ?_ (fun _ => ?_)
theorem bolterlaw21_ReplyChanges.mono : ∀ a0 a1 a2 a3 a4 a5 a6 a7 a8 a9 a10 a11 a12 a13 a14 a15 a16 k, LeO (bolterlaw21_ReplyChanges.f k a0 a1 a2 a3 a4 a5 a6 a7 a8 a9 a10 a11 a12 a13 a14 a15 a16) (bolterlaw21_ReplyChanges.f (k + 1) a0 a1 a2 a3 a4 a5 a6 a7 a8 a9 a10 a11 a12 a13 a14 a15 a16) := by
  intro a0 a1 a2 a3 a4 a5 a6 a7 a8 a9 a10 a11 a12 a13 a14 a15 a16 k
  have ih0 := bolterlaw21_ReplyChanges.mono_l k
  unfold bolterlaw21_ReplyChanges.f
  repeat' first
      | (with_reducible exact ih0 _ _ _ _ _ _ _ _ _ _ _ _ _ _ _ _ _ _)
      | (with_reducible exact bolterlaw21_awake.mono _)
      | (with_reducible exact reply_Changes.mono _ _ _ _ _ _)
      | (with_reducible exact LeO.refl _)
      | (with_reducible exact LeO.none _)
      | (with_reducible refine LeO.ite ?_ ?_)
      | (with_reducible refine LeO.bind ?_ (fun _ => ?_))
      | exact ih0 _ _ _ _ _ _ _ _ _ _ _ _ _ _ _ _ _ _
      | exact bolterlaw21_awake.mono _
      | exact reply_Changes.mono _ _ _ _ _ _
      | exact LeO.none _
      | refine LeO.ite ?_ ?_
      | refine LeO.bind ?_ (fun _ => ?_)
set_option maxHeartbeats 8000000 in
set_option maxRecDepth 100000 in
theorem bolterlaw21_ReplyChanges.calls (k : Nat) (a0 : Int) (a1 : Bool) (a2 : Int) (a3_0 : Int) (a3_1 : Bool) (a3_2 : Int) (a3_3 : Bool) (a3_4 : Bool) (a3_5 : Bool) (a3_6 : Bool) (a3_7 : Int) (a3_8 : ByteArray) (a3_9 : Int) (A3_10 : Option Addr) (c3_10 : Nat) (l3_10 : List (S43)) (A3_11 : Option Addr) (c3_11 : Nat) (l3_11 : List (S43)) (A3_12 : Option Addr) (c3_12 : Nat) (l3_12 : List (S43)) (a3_13 : Int) (r : Bool) (w : World) (hr3_10 : Kd.C k43 w A3_10 l3_10.length l3_10) (hc3_10 : l3_10.length ≤ c3_10) (hr3_11 : Kd.C k43 w A3_11 l3_11.length l3_11) (hc3_11 : l3_11.length ≤ c3_11) (hr3_12 : Kd.C k43 w A3_12 l3_12.length l3_12) (hc3_12 : l3_12.length ≤ c3_12) (h : bolterlaw21_ReplyChanges.f k a0 a1 a2 a3_0 a3_1 a3_2 a3_3 a3_4 a3_5 a3_6 a3_7 a3_8 a3_9 l3_10 l3_11 l3_12 a3_13 = some r) (hT : r = true) :
    Calls Try.prog 11 #[.int .i64 a0, .bool a1, .int .i64 a2, .agg #[.int .u16 a3_0, .bool a3_1, .int .i64 a3_2, .bool a3_3, .bool a3_4, .bool a3_5, .bool a3_6, .int .i64 a3_7, .string a3_8, .int .u16 a3_9, .slice A3_10 l3_10.length c3_10, .slice A3_11 l3_11.length c3_11, .slice A3_12 l3_12.length c3_12, .int .i64 a3_13]] w fun e w' => e = .returned (.bool r) ∧ Below w.heap.size w w' := by
  have hu58 := Try.underlying58
  have hu28 := Try.underlying28
  have HR3_10 := Aside0.mk hr3_10
  have HC3_10 := Aside0.mk hc3_10
  clear hr3_10 hc3_10
  have HR3_11 := Aside0.mk hr3_11
  have HC3_11 := Aside0.mk hc3_11
  clear hr3_11 hc3_11
  have HR3_12 := Aside0.mk hr3_12
  have HC3_12 := Aside0.mk hc3_12
  clear hr3_12 hc3_12
  have HB := Aside0.mk (Below.refl w.heap.size w)
  have H : ((bolterlaw21_awake.f k).bind fun t292 => (if t292 = true then (if a0 = 3 then (bolterlaw21_ReplyChanges.j0 k a1 a2 a0 true a3_0 a3_1 a3_2 a3_3 a3_4 a3_5 a3_6 a3_7 a3_8 a3_9 l3_10 l3_11 l3_12 a3_13) else (if a0 = 4 then (bolterlaw21_ReplyChanges.j0 k a1 a2 a0 true a3_0 a3_1 a3_2 a3_3 a3_4 a3_5 a3_6 a3_7 a3_8 a3_9 l3_10 l3_11 l3_12 a3_13) else (if a0 = 5 then (bolterlaw21_ReplyChanges.j0 k a1 a2 a0 true a3_0 a3_1 a3_2 a3_3 a3_4 a3_5 a3_6 a3_7 a3_8 a3_9 l3_10 l3_11 l3_12 a3_13) else (if a0 = 7 then (bolterlaw21_ReplyChanges.j0 k a1 a2 a0 true a3_0 a3_1 a3_2 a3_3 a3_4 a3_5 a3_6 a3_7 a3_8 a3_9 l3_10 l3_11 l3_12 a3_13) else (if a0 = 8 then (bolterlaw21_ReplyChanges.j0 k a1 a2 a0 true a3_0 a3_1 a3_2 a3_3 a3_4 a3_5 a3_6 a3_7 a3_8 a3_9 l3_10 l3_11 l3_12 a3_13) else (if a0 = 6 then (bolterlaw21_ReplyChanges.j0 k a1 a2 a0 (!a1) a3_0 a3_1 a3_2 a3_3 a3_4 a3_5 a3_6 a3_7 a3_8 a3_9 l3_10 l3_11 l3_12 a3_13) else (bolterlaw21_ReplyChanges.j0 k a1 a2 a0 false a3_0 a3_1 a3_2 a3_3 a3_4 a3_5 a3_6 a3_7 a3_8 a3_9 l3_10 l3_11 l3_12 a3_13))))))) else (some false))) = some r := h
  clear h
  replace H := Option.bind_eq_some_iff.mp H
  obtain ⟨t292, A50, H⟩ := H
  replace H : (if t292 = true then (if a0 = 3 then (bolterlaw21_ReplyChanges.j0 k a1 a2 a0 true a3_0 a3_1 a3_2 a3_3 a3_4 a3_5 a3_6 a3_7 a3_8 a3_9 l3_10 l3_11 l3_12 a3_13) else (if a0 = 4 then (bolterlaw21_ReplyChanges.j0 k a1 a2 a0 true a3_0 a3_1 a3_2 a3_3 a3_4 a3_5 a3_6 a3_7 a3_8 a3_9 l3_10 l3_11 l3_12 a3_13) else (if a0 = 5 then (bolterlaw21_ReplyChanges.j0 k a1 a2 a0 true a3_0 a3_1 a3_2 a3_3 a3_4 a3_5 a3_6 a3_7 a3_8 a3_9 l3_10 l3_11 l3_12 a3_13) else (if a0 = 7 then (bolterlaw21_ReplyChanges.j0 k a1 a2 a0 true a3_0 a3_1 a3_2 a3_3 a3_4 a3_5 a3_6 a3_7 a3_8 a3_9 l3_10 l3_11 l3_12 a3_13) else (if a0 = 8 then (bolterlaw21_ReplyChanges.j0 k a1 a2 a0 true a3_0 a3_1 a3_2 a3_3 a3_4 a3_5 a3_6 a3_7 a3_8 a3_9 l3_10 l3_11 l3_12 a3_13) else (if a0 = 6 then (bolterlaw21_ReplyChanges.j0 k a1 a2 a0 (!a1) a3_0 a3_1 a3_2 a3_3 a3_4 a3_5 a3_6 a3_7 a3_8 a3_9 l3_10 l3_11 l3_12 a3_13) else (bolterlaw21_ReplyChanges.j0 k a1 a2 a0 false a3_0 a3_1 a3_2 a3_3 a3_4 a3_5 a3_6 a3_7 a3_8 a3_9 l3_10 l3_11 l3_12 a3_13))))))) else (some false)) = some r := H
  have A5 := Aside0.mk A50
  clear A50
  by_cases c6 : t292 = true
  · subst c6
    have H1 : (if a0 = 3 then (bolterlaw21_ReplyChanges.j0 k a1 a2 a0 true a3_0 a3_1 a3_2 a3_3 a3_4 a3_5 a3_6 a3_7 a3_8 a3_9 l3_10 l3_11 l3_12 a3_13) else (if a0 = 4 then (bolterlaw21_ReplyChanges.j0 k a1 a2 a0 true a3_0 a3_1 a3_2 a3_3 a3_4 a3_5 a3_6 a3_7 a3_8 a3_9 l3_10 l3_11 l3_12 a3_13) else (if a0 = 5 then (bolterlaw21_ReplyChanges.j0 k a1 a2 a0 true a3_0 a3_1 a3_2 a3_3 a3_4 a3_5 a3_6 a3_7 a3_8 a3_9 l3_10 l3_11 l3_12 a3_13) else (if a0 = 7 then (bolterlaw21_ReplyChanges.j0 k a1 a2 a0 true a3_0 a3_1 a3_2 a3_3 a3_4 a3_5 a3_6 a3_7 a3_8 a3_9 l3_10 l3_11 l3_12 a3_13) else (if a0 = 8 then (bolterlaw21_ReplyChanges.j0 k a1 a2 a0 true a3_0 a3_1 a3_2 a3_3 a3_4 a3_5 a3_6 a3_7 a3_8 a3_9 l3_10 l3_11 l3_12 a3_13) else (if a0 = 6 then (bolterlaw21_ReplyChanges.j0 k a1 a2 a0 (!a1) a3_0 a3_1 a3_2 a3_3 a3_4 a3_5 a3_6 a3_7 a3_8 a3_9 l3_10 l3_11 l3_12 a3_13) else (bolterlaw21_ReplyChanges.j0 k a1 a2 a0 false a3_0 a3_1 a3_2 a3_3 a3_4 a3_5 a3_6 a3_7 a3_8 a3_9 l3_10 l3_11 l3_12 a3_13))))))) = some r := by rw [if_pos rfl] at H; exact H
    clear H
    have H := H1
    clear H1
    have HC7 := Aside0.mk H
    clear H
    go_enter Try.func11, Try.ntmps11
    go_upto_region 4 with (first | ((with_reducible refine gate_dst (N := 7) rfl ?_); refine box_event ?hg (N := 7) ?hd (cs := #[.int .u16 a3_0, .bool a3_1, .int .i64 a3_2, .bool a3_3, .bool a3_4, .bool a3_5, .bool a3_6, .int .i64 a3_7, .string a3_8, .int .u16 a3_9, .slice A3_10 l3_10.length c3_10, .slice A3_11 l3_11.length c3_11, .slice A3_12 l3_12.length c3_12, .int .i64 a3_13]) (t := 58) ?hr ?_; (case hd => rfl); (case hg => rfl); (case hr => first | (go_simp; done) | (go_simp; rfl)); intro gb291 hg w8 hbox hb; have n0_ := Aside0.mk (below_step (by repeat (first | (with_reducible first | exact HB.out | apply below_alloc | apply pw_below_drewN | apply below_drew1) | exact HB.out)) hb); have n1_ := Aside0.mk (hbox); have n2_ := Aside0.mk ((by rw [hg]; exact (below_size (by repeat (first | (with_reducible first | exact HB.out | apply below_alloc | apply pw_below_drewN | apply below_drew1) | exact HB.out))) : w.heap.size ≤ gb291)); have n3_ := Aside0.mk ((by rw [hg]; exact (below_size (by repeat (first | (with_reducible first | exact HB.out | apply below_alloc | apply pw_below_drewN | apply below_drew1) | exact HB.out))) : w.heap.size ≤ gb291)); clear HB; have HB := n0_; have BK291 := n1_; have GW291 := n2_; have GE291 := n3_; clear n0_ n1_ n2_ n3_; clear hb hbox hg) | ((with_reducible refine gate_callee (f := 24) rfl ?_); refine goesL_ (some 12) rfl rfl Try.func24 (by kernel_rfl) rfl #[] rfl (by (try simp only [List.map_toArray, List.map_cons, List.map_nil]); first | done | rfl | (simp only [List.length_drop, List.length_take]; rfl)) ?_; (with_reducible refine (bolterlaw21_awake.calls k  true _ A5.out rfl).mono ?_); rintro e w9 ⟨rfl, hb⟩; refine ⟨_, rfl, ?_⟩; have n0_ := Aside0.mk (blk_below (g := gb291) (o := .cells #[.int .u16 a3_0, .bool a3_1, .int .i64 a3_2, .bool a3_3, .bool a3_4, .bool a3_5, .bool a3_6, .int .i64 a3_7, .string a3_8, .int .u16 a3_9, .slice A3_10 l3_10.length c3_10, .slice A3_11 l3_11.length c3_11, .slice A3_12 l3_12.length c3_12, .int .i64 a3_13] 58 (0, 0)) (by (with_reducible repeat (first | refine blk_drewN ?_ _ | refine blk_drew ?_ | refine blk_alloc ?_ _)); exact BK291.out) hb); have n1_ := Aside0.mk (below_step (by repeat (first | (with_reducible first | exact HB.out | apply below_alloc | apply pw_below_drewN | apply below_drew1 | refine below_set ?_ GE291.out) | exact HB.out)) hb); clear BK291; clear HB; have BK291 := n0_; have HB := n1_; clear n0_ n1_; (try clear hb); (try clear hb2); (try clear hk); (try clear hi)))
    (try simp only [Act.put, List.setIfInBounds_toArray, List.set_cons_zero, List.set_cons_succ])
    go_cut [10] (fun v10 wc => ∃ (kq : Nat) (x10_6 : Bool), v10 = .bool x10_6 ∧ Aside0 (bolterlaw21_ReplyChanges.j0 kq a1 a2 a0 x10_6 a3_0 a3_1 a3_2 a3_3 a3_4 a3_5 a3_6 a3_7 a3_8 a3_9 l3_10 l3_11 l3_12 a3_13 = some r) ∧ Aside0 (kq ≤ k) ∧ Aside0 (wc.heap[gb291]? = some (.cells #[.int .u16 a3_0, .bool a3_1, .int .i64 a3_2, .bool a3_3, .bool a3_4, .bool a3_5, .bool a3_6, .int .i64 a3_7, .string a3_8, .int .u16 a3_9, (.slice A3_10 l3_10.length c3_10), (.slice A3_11 l3_11.length c3_11), (.slice A3_12 l3_12.length c3_12), .int .i64 a3_13] 58 (0, 0))) ∧ Aside0 (Below w.heap.size w wc))
    case first =>
      have H := HC7.out
      clear HC7
      by_cases c10 : a0 = 3
      · rw [if_pos c10] at H
        have c10b0 : (a0 == 3) = true := beq_iff_eq.mpr c10
        have c10b1 : (a0 != 3) = false := bne_eq_false_iff_eq.mpr c10
        clear c10
        (first | rw [c10b0] | (simp only [i64_w, i32_w]; rw [c10b0]) | skip)
        have H' := Aside0.mk H
        clear H
        go_wp2
        go_meet
        case rel => exact ⟨_, (true), (by first | rfl | (simp; done) | (simp [*]; done)), H', ⟨by first | omega | exact Nat.le_refl _⟩, ⟨by (with_reducible repeat (first | refine blk_drewN ?_ _ | refine blk_drew ?_ | refine blk_alloc ?_ _)); exact BK291.out⟩, ⟨by repeat (first | (with_reducible first | exact HB.out | apply below_alloc | apply pw_below_drewN | apply below_drew1 | refine below_set ?_ GE291.out) | exact HB.out)⟩⟩
      · rw [if_neg c10] at H
        have c10b0 : (a0 == 3) = false := beq_eq_false_iff_ne.mpr c10
        have c10b1 : (a0 != 3) = true := bne_iff_ne.mpr c10
        (first | rw [c10b0] | (simp only [i64_w, i32_w]; rw [c10b0]) | skip)
        by_cases c11 : a0 = 4
        · rw [if_pos c11] at H
          have c11b0 : (a0 == 4) = true := beq_iff_eq.mpr c11
          have c11b1 : (a0 != 4) = false := bne_eq_false_iff_eq.mpr c11
          clear c11
          have H' := Aside0.mk H
          clear H
          go_wp2
          go_meet
          case rel => exact ⟨_, (true), (by first | rfl | (simp; done) | (simp [*]; done)), H', ⟨by first | omega | exact Nat.le_refl _⟩, ⟨by (with_reducible repeat (first | refine blk_drewN ?_ _ | refine blk_drew ?_ | refine blk_alloc ?_ _)); exact BK291.out⟩, ⟨by repeat (first | (with_reducible first | exact HB.out | apply below_alloc | apply pw_below_drewN | apply below_drew1 | refine below_set ?_ GE291.out) | exact HB.out)⟩⟩
        · rw [if_neg c11] at H
          have c11b0 : (a0 == 4) = false := beq_eq_false_iff_ne.mpr c11
          have c11b1 : (a0 != 4) = true := bne_iff_ne.mpr c11
          by_cases c12 : a0 = 5
          · rw [if_pos c12] at H
            have c12b0 : (a0 == 5) = true := beq_iff_eq.mpr c12
            have c12b1 : (a0 != 5) = false := bne_eq_false_iff_eq.mpr c12
            clear c12
            have H' := Aside0.mk H
            clear H
            go_wp2
            go_meet
            case rel => exact ⟨_, (true), (by first | rfl | (simp; done) | (simp [*]; done)), H', ⟨by first | omega | exact Nat.le_refl _⟩, ⟨by (with_reducible repeat (first | refine blk_drewN ?_ _ | refine blk_drew ?_ | refine blk_alloc ?_ _)); exact BK291.out⟩, ⟨by repeat (first | (with_reducible first | exact HB.out | apply below_alloc | apply pw_below_drewN | apply below_drew1 | refine below_set ?_ GE291.out) | exact HB.out)⟩⟩
          · rw [if_neg c12] at H
            have c12b0 : (a0 == 5) = false := beq_eq_false_iff_ne.mpr c12
            have c12b1 : (a0 != 5) = true := bne_iff_ne.mpr c12
            by_cases c13 : a0 = 7
            · rw [if_pos c13] at H
              have c13b0 : (a0 == 7) = true := beq_iff_eq.mpr c13
              have c13b1 : (a0 != 7) = false := bne_eq_false_iff_eq.mpr c13
              clear c13
              have H' := Aside0.mk H
              clear H
              go_wp2
              go_meet
              case rel => exact ⟨_, (true), (by first | rfl | (simp; done) | (simp [*]; done)), H', ⟨by first | omega | exact Nat.le_refl _⟩, ⟨by (with_reducible repeat (first | refine blk_drewN ?_ _ | refine blk_drew ?_ | refine blk_alloc ?_ _)); exact BK291.out⟩, ⟨by repeat (first | (with_reducible first | exact HB.out | apply below_alloc | apply pw_below_drewN | apply below_drew1 | refine below_set ?_ GE291.out) | exact HB.out)⟩⟩
            · rw [if_neg c13] at H
              have c13b0 : (a0 == 7) = false := beq_eq_false_iff_ne.mpr c13
              have c13b1 : (a0 != 7) = true := bne_iff_ne.mpr c13
              by_cases c14 : a0 = 8
              · rw [if_pos c14] at H
                have c14b0 : (a0 == 8) = true := beq_iff_eq.mpr c14
                have c14b1 : (a0 != 8) = false := bne_eq_false_iff_eq.mpr c14
                clear c14
                have H' := Aside0.mk H
                clear H
                go_wp2
                go_meet
                case rel => exact ⟨_, (true), (by first | rfl | (simp; done) | (simp [*]; done)), H', ⟨by first | omega | exact Nat.le_refl _⟩, ⟨by (with_reducible repeat (first | refine blk_drewN ?_ _ | refine blk_drew ?_ | refine blk_alloc ?_ _)); exact BK291.out⟩, ⟨by repeat (first | (with_reducible first | exact HB.out | apply below_alloc | apply pw_below_drewN | apply below_drew1 | refine below_set ?_ GE291.out) | exact HB.out)⟩⟩
              · rw [if_neg c14] at H
                have c14b0 : (a0 == 8) = false := beq_eq_false_iff_ne.mpr c14
                have c14b1 : (a0 != 8) = true := bne_iff_ne.mpr c14
                by_cases c15 : a0 = 6
                · rw [if_pos c15] at H
                  have c15b0 : (a0 == 6) = true := beq_iff_eq.mpr c15
                  have c15b1 : (a0 != 6) = false := bne_eq_false_iff_eq.mpr c15
                  clear c15
                  have H' := Aside0.mk H
                  clear H
                  go_wp2
                  go_meet
                  case rel => exact ⟨_, (!a1), (by first | rfl | (simp; done) | (simp [*]; done)), H', ⟨by first | omega | exact Nat.le_refl _⟩, ⟨by (with_reducible repeat (first | refine blk_drewN ?_ _ | refine blk_drew ?_ | refine blk_alloc ?_ _)); exact BK291.out⟩, ⟨by repeat (first | (with_reducible first | exact HB.out | apply below_alloc | apply pw_below_drewN | apply below_drew1 | refine below_set ?_ GE291.out) | exact HB.out)⟩⟩
                · rw [if_neg c15] at H
                  have c15b0 : (a0 == 6) = false := beq_eq_false_iff_ne.mpr c15
                  have c15b1 : (a0 != 6) = true := bne_iff_ne.mpr c15
                  have H' := Aside0.mk H
                  clear H
                  go_wp2
                  go_meet
                  case rel => exact ⟨_, (false), (by first | rfl | (simp; done) | (simp [*]; done)), H', ⟨by first | omega | exact Nat.le_refl _⟩, ⟨by (with_reducible repeat (first | refine blk_drewN ?_ _ | refine blk_drew ?_ | refine blk_alloc ?_ _)); exact BK291.out⟩, ⟨by repeat (first | (with_reducible first | exact HB.out | apply below_alloc | apply pw_below_drewN | apply below_drew1 | refine below_set ?_ GE291.out) | exact HB.out)⟩⟩
    case rest =>
      clear HC7
      try clear c1
      try clear c2
      try clear p2
      try clear c3
      try clear c6
      try clear c10
      try clear c10b0
      try clear c10b1
      try clear c11
      try clear c11b0
      try clear c11b1
      try clear c12
      try clear c12b0
      try clear c12b1
      try clear c13
      try clear c13b0
      try clear c13b1
      try clear c14
      try clear c14b0
      try clear c14b1
      try clear c15
      try clear c15b0
      try clear c15b1
      obtain ⟨kq, x10_6, rfl, HA, HJ6, BK291, HB⟩ := hcut
      cases kq with
      | zero => exact absurd HA.out (by simp [bolterlaw21_ReplyChanges.j0])
      | succ kj6 =>
        have H := HA.out
        clear HA
        simp only [bolterlaw21_ReplyChanges.j0] at H
        obtain ⟨ji16, hji16⟩ : ∃ j_ : Int, (mx 512 a2) = j_ := ⟨_, rfl⟩
        replace H : (if a1 = true then ((reply_Changes.f kj6 a0 (⟨#[]⟩ : ByteArray) false ([] : List (S43)) a1).bind fun t293 => (if (t293 == x10_6) = true then ((reply_Limit.f a3_0 a3_1 a3_2 a3_3 a3_4 a3_5 a3_6 a3_7 a3_8 a3_9 l3_10 l3_11 l3_12 a2 a1).bind fun t294 => (some (t294 == 4096))) else (some false))) else ((reply_Changes.f kj6 a0 (⟨#[]⟩ : ByteArray) false ([] : List (S43)) a1).bind fun t295 => (if (t295 == x10_6) = true then ((reply_Limit.f a3_0 a3_1 a3_2 a3_3 a3_4 a3_5 a3_6 a3_7 a3_8 a3_9 l3_10 l3_11 l3_12 a2 a1).bind fun t296 => (some (t296 == (mn (ji16) 4096)))) else (some false)))) = some r := by first | (rw [hji16] at H; exact H) | (simp only [hji16] at H ⊢; exact H)
        have hji16_ : (if 512 < a2 then a2 else 512) = ji16 := hji16
        obtain ⟨ji17, hji17⟩ : ∃ j_ : Int, (mn (ji16) 4096) = j_ := ⟨_, rfl⟩
        replace H : (if a1 = true then ((reply_Changes.f kj6 a0 (⟨#[]⟩ : ByteArray) false ([] : List (S43)) a1).bind fun t293 => (if (t293 == x10_6) = true then ((reply_Limit.f a3_0 a3_1 a3_2 a3_3 a3_4 a3_5 a3_6 a3_7 a3_8 a3_9 l3_10 l3_11 l3_12 a2 a1).bind fun t294 => (some (t294 == 4096))) else (some false))) else ((reply_Changes.f kj6 a0 (⟨#[]⟩ : ByteArray) false ([] : List (S43)) a1).bind fun t295 => (if (t295 == x10_6) = true then ((reply_Limit.f a3_0 a3_1 a3_2 a3_3 a3_4 a3_5 a3_6 a3_7 a3_8 a3_9 l3_10 l3_11 l3_12 a2 a1).bind fun t296 => (some (t296 == (ji17)))) else (some false)))) = some r := by first | (rw [hji17] at H; exact H) | (simp only [hji17] at H ⊢; exact H)
        have hji17_ : (if 4096 < (ji16) then 4096 else (ji16)) = ji17 := hji17
        by_cases c18 : a1 = true
        · subst c18
          have H1 : ((reply_Changes.f kj6 a0 (⟨#[]⟩ : ByteArray) false ([] : List (S43)) true).bind fun t293 => (if (t293 == x10_6) = true then ((reply_Limit.f a3_0 a3_1 a3_2 a3_3 a3_4 a3_5 a3_6 a3_7 a3_8 a3_9 l3_10 l3_11 l3_12 a2 true).bind fun t294 => (some (t294 == 4096))) else (some false))) = some r := by rw [if_pos rfl] at H; exact H
          clear H
          have H := H1
          clear H1
          replace H := Option.bind_eq_some_iff.mp H
          obtain ⟨t293, A190, H⟩ := H
          replace H : (if (t293 == x10_6) = true then ((reply_Limit.f a3_0 a3_1 a3_2 a3_3 a3_4 a3_5 a3_6 a3_7 a3_8 a3_9 l3_10 l3_11 l3_12 a2 true).bind fun t294 => (some (t294 == 4096))) else (some false)) = some r := H
          have A19 := Aside0.mk A190
          clear A190
          by_cases c20 : (t293 == x10_6) = true
          · rw [if_pos c20] at H
            have c20b0 : (t293 == x10_6) = true := c20
            (try (have c20b1 : decide (t293 = x10_6) = true := by simpa using c20))
            (try (have c20b2 : (t293 == x10_6) = true := by simpa using c20))
            clear c20
            replace H := Option.bind_eq_some_iff.mp H
            obtain ⟨t294, A210, H⟩ := H
            replace H : (some (t294 == 4096)) = some r := H
            have A21 := Aside0.mk A210
            clear A210
            obtain rfl := Option.some.inj H
            have hcz22_0 : wc.cell? ⟨gb291, 0, none⟩ = some (.int .u16 a3_0) := (blk_cell BK291.out 0).trans rfl
            have hcz22_1 : wc.cell? ⟨gb291, 1, none⟩ = some (.bool a3_1) := (blk_cell BK291.out 1).trans rfl
            have hcz22_2 : wc.cell? ⟨gb291, 2, none⟩ = some (.int .i64 a3_2) := (blk_cell BK291.out 2).trans rfl
            have hcz22_3 : wc.cell? ⟨gb291, 3, none⟩ = some (.bool a3_3) := (blk_cell BK291.out 3).trans rfl
            have hcz22_4 : wc.cell? ⟨gb291, 4, none⟩ = some (.bool a3_4) := (blk_cell BK291.out 4).trans rfl
            have hcz22_5 : wc.cell? ⟨gb291, 5, none⟩ = some (.bool a3_5) := (blk_cell BK291.out 5).trans rfl
            have hcz22_6 : wc.cell? ⟨gb291, 6, none⟩ = some (.bool a3_6) := (blk_cell BK291.out 6).trans rfl
            have hcz22_7 : wc.cell? ⟨gb291, 7, none⟩ = some (.int .i64 a3_7) := (blk_cell BK291.out 7).trans rfl
            have hcz22_8 : wc.cell? ⟨gb291, 8, none⟩ = some (.string a3_8) := (blk_cell BK291.out 8).trans rfl
            have hcz22_9 : wc.cell? ⟨gb291, 9, none⟩ = some (.int .u16 a3_9) := (blk_cell BK291.out 9).trans rfl
            have hcz22_10 : wc.cell? ⟨gb291, 10, none⟩ = some (.slice A3_10 l3_10.length c3_10) := (blk_cell BK291.out 10).trans rfl
            have hcz22_11 : wc.cell? ⟨gb291, 11, none⟩ = some (.slice A3_11 l3_11.length c3_11) := (blk_cell BK291.out 11).trans rfl
            have hcz22_12 : wc.cell? ⟨gb291, 12, none⟩ = some (.slice A3_12 l3_12.length c3_12) := (blk_cell BK291.out 12).trans rfl
            have hcz22_13 : wc.cell? ⟨gb291, 13, none⟩ = some (.int .i64 a3_13) := (blk_cell BK291.out 13).trans rfl
            have hfz22_0 := blk_frozen BK291.out 0
            have hfz22_1 := blk_frozen BK291.out 1
            have hfz22_2 := blk_frozen BK291.out 2
            have hfz22_3 := blk_frozen BK291.out 3
            have hfz22_4 := blk_frozen BK291.out 4
            have hfz22_5 := blk_frozen BK291.out 5
            have hfz22_6 := blk_frozen BK291.out 6
            have hfz22_7 := blk_frozen BK291.out 7
            have hfz22_8 := blk_frozen BK291.out 8
            have hfz22_9 := blk_frozen BK291.out 9
            have hfz22_10 := blk_frozen BK291.out 10
            have hfz22_11 := blk_frozen BK291.out 11
            have hfz22_12 := blk_frozen BK291.out 12
            have hfz22_13 := blk_frozen BK291.out 13
            go_wp2_with (first | ((with_reducible refine gate_callee (f := 32) rfl ?_); refine goesL_ (some 50) rfl rfl Try.func32 (by kernel_rfl) rfl #[.agg #[.int .i64 a0, .string (⟨#[]⟩ : ByteArray), .bool false, .slice none 0 0], .bool true] rfl (by (try simp only [List.map_toArray, List.map_cons, List.map_nil]); first | done | rfl | (simp only [List.length_drop, List.length_take]; rfl)) ?_; (refine (reply_Changes.calls kj6 a0 (⟨#[]⟩ : ByteArray) false _ _ ([] : List (S43)) true t293 _ ?side1 ?side2 A19.out).mono ?_); (case side1 => exact Kd.C_nil _ _); (case side2 => exact Nat.le_refl _); rintro e w23 ⟨rfl, hb⟩; refine ⟨_, rfl, ?_⟩; have n0_ := Aside0.mk (blk_below (g := gb291) (o := .cells #[.int .u16 a3_0, .bool a3_1, .int .i64 a3_2, .bool a3_3, .bool a3_4, .bool a3_5, .bool a3_6, .int .i64 a3_7, .string a3_8, .int .u16 a3_9, .slice A3_10 l3_10.length c3_10, .slice A3_11 l3_11.length c3_11, .slice A3_12 l3_12.length c3_12, .int .i64 a2] 58 (0, 0)) (by (with_reducible repeat (first | refine blk_drewN ?_ _ | refine blk_drew ?_ | refine blk_alloc ?_ _)); refine blk_put (cs := #[.int .u16 a3_0, .bool a3_1, .int .i64 a3_2, .bool a3_3, .bool a3_4, .bool a3_5, .bool a3_6, .int .i64 a3_7, .string a3_8, .int .u16 a3_9, .slice A3_10 l3_10.length c3_10, .slice A3_11 l3_11.length c3_11, .slice A3_12 l3_12.length c3_12, .int .i64 a3_13]) ?_ 13 _ rfl; (with_reducible repeat (first | refine blk_drewN ?_ _ | refine blk_drew ?_ | refine blk_alloc ?_ _)); exact BK291.out) hb); have n1_ := Aside0.mk (below_step (by repeat (first | (with_reducible first | exact HB.out | apply below_alloc | apply pw_below_drewN | apply below_drew1 | refine below_set ?_ GE291.out) | exact HB.out)) hb); clear BK291; clear HB; have BK291 := n0_; have HB := n1_; clear n0_ n1_; (try clear hb); (try clear hb2); (try clear hk); (try clear hi); have hcz24_0 : w23.cell? ⟨gb291, 0, none⟩ = some (.int .u16 a3_0) := (blk_cell BK291.out 0).trans rfl; have hcz24_1 : w23.cell? ⟨gb291, 1, none⟩ = some (.bool a3_1) := (blk_cell BK291.out 1).trans rfl; have hcz24_2 : w23.cell? ⟨gb291, 2, none⟩ = some (.int .i64 a3_2) := (blk_cell BK291.out 2).trans rfl; have hcz24_3 : w23.cell? ⟨gb291, 3, none⟩ = some (.bool a3_3) := (blk_cell BK291.out 3).trans rfl; have hcz24_4 : w23.cell? ⟨gb291, 4, none⟩ = some (.bool a3_4) := (blk_cell BK291.out 4).trans rfl; have hcz24_5 : w23.cell? ⟨gb291, 5, none⟩ = some (.bool a3_5) := (blk_cell BK291.out 5).trans rfl; have hcz24_6 : w23.cell? ⟨gb291, 6, none⟩ = some (.bool a3_6) := (blk_cell BK291.out 6).trans rfl; have hcz24_7 : w23.cell? ⟨gb291, 7, none⟩ = some (.int .i64 a3_7) := (blk_cell BK291.out 7).trans rfl; have hcz24_8 : w23.cell? ⟨gb291, 8, none⟩ = some (.string a3_8) := (blk_cell BK291.out 8).trans rfl; have hcz24_9 : w23.cell? ⟨gb291, 9, none⟩ = some (.int .u16 a3_9) := (blk_cell BK291.out 9).trans rfl; have hcz24_10 : w23.cell? ⟨gb291, 10, none⟩ = some (.slice A3_10 l3_10.length c3_10) := (blk_cell BK291.out 10).trans rfl; have hcz24_11 : w23.cell? ⟨gb291, 11, none⟩ = some (.slice A3_11 l3_11.length c3_11) := (blk_cell BK291.out 11).trans rfl; have hcz24_12 : w23.cell? ⟨gb291, 12, none⟩ = some (.slice A3_12 l3_12.length c3_12) := (blk_cell BK291.out 12).trans rfl; have hcz24_13 : w23.cell? ⟨gb291, 13, none⟩ = some (.int .i64 a2) := (blk_cell BK291.out 13).trans rfl; have hfz24_0 := blk_frozen BK291.out 0; have hfz24_1 := blk_frozen BK291.out 1; have hfz24_2 := blk_frozen BK291.out 2; have hfz24_3 := blk_frozen BK291.out 3; have hfz24_4 := blk_frozen BK291.out 4; have hfz24_5 := blk_frozen BK291.out 5; have hfz24_6 := blk_frozen BK291.out 6; have hfz24_7 := blk_frozen BK291.out 7; have hfz24_8 := blk_frozen BK291.out 8; have hfz24_9 := blk_frozen BK291.out 9; have hfz24_10 := blk_frozen BK291.out 10; have hfz24_11 := blk_frozen BK291.out 11; have hfz24_12 := blk_frozen BK291.out 12; have hfz24_13 := blk_frozen BK291.out 13) | (go_at_call 33; (with_reducible refine (reply_Limit.calls a3_0 a3_1 a3_2 a3_3 a3_4 a3_5 a3_6 a3_7 a3_8 a3_9 _ _ l3_10 _ _ l3_11 _ _ l3_12 a2 true t294 _ ?side1 ?side2 ?side3 ?side4 ?side5 ?side6 A21.out).mono ?_); (case side1 => repeat (first | exact (Kd.C_below HR3_10.out HB.out) | (with_reducible refine Kd.C_alloc ?_ _) | (with_reducible refine Kd.C_drewN ?_ _) | (with_reducible refine Kd.C_drew ?_))); (case side2 => exact HC3_10.out); (case side3 => repeat (first | exact (Kd.C_below HR3_11.out HB.out) | (with_reducible refine Kd.C_alloc ?_ _) | (with_reducible refine Kd.C_drewN ?_ _) | (with_reducible refine Kd.C_drew ?_))); (case side4 => exact HC3_11.out); (case side5 => repeat (first | exact (Kd.C_below HR3_12.out HB.out) | (with_reducible refine Kd.C_alloc ?_ _) | (with_reducible refine Kd.C_drewN ?_ _) | (with_reducible refine Kd.C_drew ?_))); (case side6 => exact HC3_12.out); rintro e w25 ⟨rfl, hb⟩; have n0_ := Aside0.mk (blk_below (g := gb291) (o := .cells #[.int .u16 a3_0, .bool a3_1, .int .i64 a3_2, .bool a3_3, .bool a3_4, .bool a3_5, .bool a3_6, .int .i64 a3_7, .string a3_8, .int .u16 a3_9, .slice A3_10 l3_10.length c3_10, .slice A3_11 l3_11.length c3_11, .slice A3_12 l3_12.length c3_12, .int .i64 a2] 58 (0, 0)) (by (with_reducible repeat (first | refine blk_drewN ?_ _ | refine blk_drew ?_ | refine blk_alloc ?_ _)); exact BK291.out) hb); have n1_ := Aside0.mk (below_step (by repeat (first | (with_reducible first | exact HB.out | apply below_alloc | apply pw_below_drewN | apply below_drew1 | refine below_set ?_ GE291.out) | exact HB.out)) hb); clear BK291; clear HB; have BK291 := n0_; have HB := n1_; clear n0_ n1_; (try clear hb); (try clear hb2); (try clear hk); (try clear hi)))
            go_ret
            exact ⟨by first | rfl | (simp [errW_none, errW_some] <;> rfl) | (simp only [← hji16, ← hji17]; first | rfl | (simp [errW_none, errW_some] <;> rfl)) | (simp [*, errW_none, errW_some] <;> rfl), by repeat (first | (with_reducible first | exact HB.out | apply below_alloc | apply pw_below_drewN | apply below_drew1 | refine below_set ?_ GE291.out) | exact HB.out)⟩
          · rw [if_neg c20] at H
            have c20b0 : (t293 == x10_6) = false := by simpa using c20
            (try (have c20b1 : decide (t293 = x10_6) = false := by simpa using c20))
            (try (have c20b2 : (t293 == x10_6) = false := by simpa using c20))
            (try (have c20b3 : ¬ (t293 = x10_6) := by simpa using c20))
            clear c20
            obtain rfl := Option.some.inj H
            exact absurd hT Bool.false_ne_true
        · replace c18 := Bool.eq_false_iff.mpr c18
          subst c18
          have H1 : ((reply_Changes.f kj6 a0 (⟨#[]⟩ : ByteArray) false ([] : List (S43)) false).bind fun t295 => (if (t295 == x10_6) = true then ((reply_Limit.f a3_0 a3_1 a3_2 a3_3 a3_4 a3_5 a3_6 a3_7 a3_8 a3_9 l3_10 l3_11 l3_12 a2 false).bind fun t296 => (some (t296 == (ji17)))) else (some false))) = some r := by rw [if_neg (show ¬ (false = true) by decide)] at H; exact H
          clear H
          have H := H1
          clear H1
          replace H := Option.bind_eq_some_iff.mp H
          obtain ⟨t295, A260, H⟩ := H
          replace H : (if (t295 == x10_6) = true then ((reply_Limit.f a3_0 a3_1 a3_2 a3_3 a3_4 a3_5 a3_6 a3_7 a3_8 a3_9 l3_10 l3_11 l3_12 a2 false).bind fun t296 => (some (t296 == (ji17)))) else (some false)) = some r := H
          have A26 := Aside0.mk A260
          clear A260
          by_cases c27 : (t295 == x10_6) = true
          · rw [if_pos c27] at H
            have c27b0 : (t295 == x10_6) = true := c27
            (try (have c27b1 : decide (t295 = x10_6) = true := by simpa using c27))
            (try (have c27b2 : (t295 == x10_6) = true := by simpa using c27))
            clear c27
            replace H := Option.bind_eq_some_iff.mp H
            obtain ⟨t296, A280, H⟩ := H
            replace H : (some (t296 == (ji17))) = some r := H
            have A28 := Aside0.mk A280
            clear A280
            obtain rfl := Option.some.inj H
            have hcz29_0 : wc.cell? ⟨gb291, 0, none⟩ = some (.int .u16 a3_0) := (blk_cell BK291.out 0).trans rfl
            have hcz29_1 : wc.cell? ⟨gb291, 1, none⟩ = some (.bool a3_1) := (blk_cell BK291.out 1).trans rfl
            have hcz29_2 : wc.cell? ⟨gb291, 2, none⟩ = some (.int .i64 a3_2) := (blk_cell BK291.out 2).trans rfl
            have hcz29_3 : wc.cell? ⟨gb291, 3, none⟩ = some (.bool a3_3) := (blk_cell BK291.out 3).trans rfl
            have hcz29_4 : wc.cell? ⟨gb291, 4, none⟩ = some (.bool a3_4) := (blk_cell BK291.out 4).trans rfl
            have hcz29_5 : wc.cell? ⟨gb291, 5, none⟩ = some (.bool a3_5) := (blk_cell BK291.out 5).trans rfl
            have hcz29_6 : wc.cell? ⟨gb291, 6, none⟩ = some (.bool a3_6) := (blk_cell BK291.out 6).trans rfl
            have hcz29_7 : wc.cell? ⟨gb291, 7, none⟩ = some (.int .i64 a3_7) := (blk_cell BK291.out 7).trans rfl
            have hcz29_8 : wc.cell? ⟨gb291, 8, none⟩ = some (.string a3_8) := (blk_cell BK291.out 8).trans rfl
            have hcz29_9 : wc.cell? ⟨gb291, 9, none⟩ = some (.int .u16 a3_9) := (blk_cell BK291.out 9).trans rfl
            have hcz29_10 : wc.cell? ⟨gb291, 10, none⟩ = some (.slice A3_10 l3_10.length c3_10) := (blk_cell BK291.out 10).trans rfl
            have hcz29_11 : wc.cell? ⟨gb291, 11, none⟩ = some (.slice A3_11 l3_11.length c3_11) := (blk_cell BK291.out 11).trans rfl
            have hcz29_12 : wc.cell? ⟨gb291, 12, none⟩ = some (.slice A3_12 l3_12.length c3_12) := (blk_cell BK291.out 12).trans rfl
            have hcz29_13 : wc.cell? ⟨gb291, 13, none⟩ = some (.int .i64 a3_13) := (blk_cell BK291.out 13).trans rfl
            have hfz29_0 := blk_frozen BK291.out 0
            have hfz29_1 := blk_frozen BK291.out 1
            have hfz29_2 := blk_frozen BK291.out 2
            have hfz29_3 := blk_frozen BK291.out 3
            have hfz29_4 := blk_frozen BK291.out 4
            have hfz29_5 := blk_frozen BK291.out 5
            have hfz29_6 := blk_frozen BK291.out 6
            have hfz29_7 := blk_frozen BK291.out 7
            have hfz29_8 := blk_frozen BK291.out 8
            have hfz29_9 := blk_frozen BK291.out 9
            have hfz29_10 := blk_frozen BK291.out 10
            have hfz29_11 := blk_frozen BK291.out 11
            have hfz29_12 := blk_frozen BK291.out 12
            have hfz29_13 := blk_frozen BK291.out 13
            go_wp2_with (first | ((with_reducible refine gate_callee (f := 32) rfl ?_); refine goesL_ (some 50) rfl rfl Try.func32 (by kernel_rfl) rfl #[.agg #[.int .i64 a0, .string (⟨#[]⟩ : ByteArray), .bool false, .slice none 0 0], .bool false] rfl (by (try simp only [List.map_toArray, List.map_cons, List.map_nil]); first | done | rfl | (simp only [List.length_drop, List.length_take]; rfl)) ?_; (refine (reply_Changes.calls kj6 a0 (⟨#[]⟩ : ByteArray) false _ _ ([] : List (S43)) false t295 _ ?side1 ?side2 A26.out).mono ?_); (case side1 => exact Kd.C_nil _ _); (case side2 => exact Nat.le_refl _); rintro e w30 ⟨rfl, hb⟩; refine ⟨_, rfl, ?_⟩; have n0_ := Aside0.mk (blk_below (g := gb291) (o := .cells #[.int .u16 a3_0, .bool a3_1, .int .i64 a3_2, .bool a3_3, .bool a3_4, .bool a3_5, .bool a3_6, .int .i64 a3_7, .string a3_8, .int .u16 a3_9, .slice A3_10 l3_10.length c3_10, .slice A3_11 l3_11.length c3_11, .slice A3_12 l3_12.length c3_12, .int .i64 a2] 58 (0, 0)) (by (with_reducible repeat (first | refine blk_drewN ?_ _ | refine blk_drew ?_ | refine blk_alloc ?_ _)); refine blk_put (cs := #[.int .u16 a3_0, .bool a3_1, .int .i64 a3_2, .bool a3_3, .bool a3_4, .bool a3_5, .bool a3_6, .int .i64 a3_7, .string a3_8, .int .u16 a3_9, .slice A3_10 l3_10.length c3_10, .slice A3_11 l3_11.length c3_11, .slice A3_12 l3_12.length c3_12, .int .i64 a3_13]) ?_ 13 _ rfl; (with_reducible repeat (first | refine blk_drewN ?_ _ | refine blk_drew ?_ | refine blk_alloc ?_ _)); exact BK291.out) hb); have n1_ := Aside0.mk (below_step (by repeat (first | (with_reducible first | exact HB.out | apply below_alloc | apply pw_below_drewN | apply below_drew1 | refine below_set ?_ GE291.out) | exact HB.out)) hb); clear BK291; clear HB; have BK291 := n0_; have HB := n1_; clear n0_ n1_; (try clear hb); (try clear hb2); (try clear hk); (try clear hi); have hcz31_0 : w30.cell? ⟨gb291, 0, none⟩ = some (.int .u16 a3_0) := (blk_cell BK291.out 0).trans rfl; have hcz31_1 : w30.cell? ⟨gb291, 1, none⟩ = some (.bool a3_1) := (blk_cell BK291.out 1).trans rfl; have hcz31_2 : w30.cell? ⟨gb291, 2, none⟩ = some (.int .i64 a3_2) := (blk_cell BK291.out 2).trans rfl; have hcz31_3 : w30.cell? ⟨gb291, 3, none⟩ = some (.bool a3_3) := (blk_cell BK291.out 3).trans rfl; have hcz31_4 : w30.cell? ⟨gb291, 4, none⟩ = some (.bool a3_4) := (blk_cell BK291.out 4).trans rfl; have hcz31_5 : w30.cell? ⟨gb291, 5, none⟩ = some (.bool a3_5) := (blk_cell BK291.out 5).trans rfl; have hcz31_6 : w30.cell? ⟨gb291, 6, none⟩ = some (.bool a3_6) := (blk_cell BK291.out 6).trans rfl; have hcz31_7 : w30.cell? ⟨gb291, 7, none⟩ = some (.int .i64 a3_7) := (blk_cell BK291.out 7).trans rfl; have hcz31_8 : w30.cell? ⟨gb291, 8, none⟩ = some (.string a3_8) := (blk_cell BK291.out 8).trans rfl; have hcz31_9 : w30.cell? ⟨gb291, 9, none⟩ = some (.int .u16 a3_9) := (blk_cell BK291.out 9).trans rfl; have hcz31_10 : w30.cell? ⟨gb291, 10, none⟩ = some (.slice A3_10 l3_10.length c3_10) := (blk_cell BK291.out 10).trans rfl; have hcz31_11 : w30.cell? ⟨gb291, 11, none⟩ = some (.slice A3_11 l3_11.length c3_11) := (blk_cell BK291.out 11).trans rfl; have hcz31_12 : w30.cell? ⟨gb291, 12, none⟩ = some (.slice A3_12 l3_12.length c3_12) := (blk_cell BK291.out 12).trans rfl; have hcz31_13 : w30.cell? ⟨gb291, 13, none⟩ = some (.int .i64 a2) := (blk_cell BK291.out 13).trans rfl; have hfz31_0 := blk_frozen BK291.out 0; have hfz31_1 := blk_frozen BK291.out 1; have hfz31_2 := blk_frozen BK291.out 2; have hfz31_3 := blk_frozen BK291.out 3; have hfz31_4 := blk_frozen BK291.out 4; have hfz31_5 := blk_frozen BK291.out 5; have hfz31_6 := blk_frozen BK291.out 6; have hfz31_7 := blk_frozen BK291.out 7; have hfz31_8 := blk_frozen BK291.out 8; have hfz31_9 := blk_frozen BK291.out 9; have hfz31_10 := blk_frozen BK291.out 10; have hfz31_11 := blk_frozen BK291.out 11; have hfz31_12 := blk_frozen BK291.out 12; have hfz31_13 := blk_frozen BK291.out 13) | (go_at_call 33; (with_reducible refine (reply_Limit.calls a3_0 a3_1 a3_2 a3_3 a3_4 a3_5 a3_6 a3_7 a3_8 a3_9 _ _ l3_10 _ _ l3_11 _ _ l3_12 a2 false t296 _ ?side1 ?side2 ?side3 ?side4 ?side5 ?side6 A28.out).mono ?_); (case side1 => repeat (first | exact (Kd.C_below HR3_10.out HB.out) | (with_reducible refine Kd.C_alloc ?_ _) | (with_reducible refine Kd.C_drewN ?_ _) | (with_reducible refine Kd.C_drew ?_))); (case side2 => exact HC3_10.out); (case side3 => repeat (first | exact (Kd.C_below HR3_11.out HB.out) | (with_reducible refine Kd.C_alloc ?_ _) | (with_reducible refine Kd.C_drewN ?_ _) | (with_reducible refine Kd.C_drew ?_))); (case side4 => exact HC3_11.out); (case side5 => repeat (first | exact (Kd.C_below HR3_12.out HB.out) | (with_reducible refine Kd.C_alloc ?_ _) | (with_reducible refine Kd.C_drewN ?_ _) | (with_reducible refine Kd.C_drew ?_))); (case side6 => exact HC3_12.out); rintro e w32 ⟨rfl, hb⟩; have n0_ := Aside0.mk (blk_below (g := gb291) (o := .cells #[.int .u16 a3_0, .bool a3_1, .int .i64 a3_2, .bool a3_3, .bool a3_4, .bool a3_5, .bool a3_6, .int .i64 a3_7, .string a3_8, .int .u16 a3_9, .slice A3_10 l3_10.length c3_10, .slice A3_11 l3_11.length c3_11, .slice A3_12 l3_12.length c3_12, .int .i64 a2] 58 (0, 0)) (by (with_reducible repeat (first | refine blk_drewN ?_ _ | refine blk_drew ?_ | refine blk_alloc ?_ _)); exact BK291.out) hb); have n1_ := Aside0.mk (below_step (by repeat (first | (with_reducible first | exact HB.out | apply below_alloc | apply pw_below_drewN | apply below_drew1 | refine below_set ?_ GE291.out) | exact HB.out)) hb); clear BK291; clear HB; have BK291 := n0_; have HB := n1_; clear n0_ n1_; (try clear hb); (try clear hb2); (try clear hk); (try clear hi)))
            go_ret
            exact ⟨by first | rfl | (simp [errW_none, errW_some] <;> rfl) | (simp only [← hji16, ← hji17]; first | rfl | (simp [errW_none, errW_some] <;> rfl)) | (simp [*, errW_none, errW_some] <;> rfl), by repeat (first | (with_reducible first | exact HB.out | apply below_alloc | apply pw_below_drewN | apply below_drew1 | refine below_set ?_ GE291.out) | exact HB.out)⟩
          · rw [if_neg c27] at H
            have c27b0 : (t295 == x10_6) = false := by simpa using c27
            (try (have c27b1 : decide (t295 = x10_6) = false := by simpa using c27))
            (try (have c27b2 : (t295 == x10_6) = false := by simpa using c27))
            (try (have c27b3 : ¬ (t295 = x10_6) := by simpa using c27))
            clear c27
            obtain rfl := Option.some.inj H
            exact absurd hT Bool.false_ne_true
  · replace c6 := Bool.eq_false_iff.mpr c6
    subst c6
    have H1 : (some false) = some r := by rw [if_neg (show ¬ (false = true) by decide)] at H; exact H
    clear H
    have H := H1
    clear H1
    obtain rfl := Option.some.inj H
    exact absurd hT Bool.false_ne_true

end Go.Proofs.Ytdkjlbbbdjkhbaa.PAll
