-- Written by a program of this session (wip/tools/drive.py over the kit's printer): functions, contracts and rows (All).
import Derived.Test.YtdkjlbbbdjkhbaaPAllx0
namespace Go.Proofs.Ytdkjlbbbdjkhbaa.PAll
open Go.RowKit Go.Proofs.YtdkjlbbbdjkhbaaW.PrintWords Go.Proofs.YtdkjlbbbdjkhbaaW.PrintLast Go.Proofs.YtdkjlbbbdjkhbaaW.PrintMore
attribute [local go_sem] max2_int min2_int max_two min_two max_three min_three max_four min_four   -- for this text's walks alone
open Go.Proofs.Ytdkjlbbbdjkhbaa.Hand
set_option linter.unusedVariables false
set_option linter.unusedSimpArgs false

/-! ### reply_Limit: function 33 -/
def reply_Limit.f (a0_0 : Int) (a0_1 : Bool) (a0_2 : Int) (a0_3 : Bool) (a0_4 : Bool) (a0_5 : Bool) (a0_6 : Bool) (a0_7 : Int) (a0_8 : ByteArray) (a0_9 : Int) (l0_10 : List (S43)) (l0_11 : List (S43)) (l0_12 : List (S43)) (a0_13 : Int) (a1 : Bool) : Option (Int) := if a1 = true then (some 4096) else (some (mx 512 (mn a0_13 4096)))
set_option maxHeartbeats 8000000 in
set_option maxRecDepth 100000 in
theorem reply_Limit.calls (a0_0 : Int) (a0_1 : Bool) (a0_2 : Int) (a0_3 : Bool) (a0_4 : Bool) (a0_5 : Bool) (a0_6 : Bool) (a0_7 : Int) (a0_8 : ByteArray) (a0_9 : Int) (A0_10 : Option Addr) (c0_10 : Nat) (l0_10 : List (S43)) (A0_11 : Option Addr) (c0_11 : Nat) (l0_11 : List (S43)) (A0_12 : Option Addr) (c0_12 : Nat) (l0_12 : List (S43)) (a0_13 : Int) (a1 : Bool) (r : Int) (w : World) (hr0_10 : Kd.C k43 w A0_10 l0_10.length l0_10) (hc0_10 : l0_10.length ≤ c0_10) (hr0_11 : Kd.C k43 w A0_11 l0_11.length l0_11) (hc0_11 : l0_11.length ≤ c0_11) (hr0_12 : Kd.C k43 w A0_12 l0_12.length l0_12) (hc0_12 : l0_12.length ≤ c0_12) (h : reply_Limit.f a0_0 a0_1 a0_2 a0_3 a0_4 a0_5 a0_6 a0_7 a0_8 a0_9 l0_10 l0_11 l0_12 a0_13 a1 = some r) :
    Calls Try.prog 33 #[.agg #[.int .u16 a0_0, .bool a0_1, .int .i64 a0_2, .bool a0_3, .bool a0_4, .bool a0_5, .bool a0_6, .int .i64 a0_7, .string a0_8, .int .u16 a0_9, .slice A0_10 l0_10.length c0_10, .slice A0_11 l0_11.length c0_11, .slice A0_12 l0_12.length c0_12, .int .i64 a0_13], .bool a1] w fun e w' => e = .returned (.int .i64 r) ∧ Below w.heap.size w w' := by
  have hu58 := Try.underlying58
  have HR0_10 := Aside0.mk hr0_10
  have HC0_10 := Aside0.mk hc0_10
  clear hr0_10 hc0_10
  have HR0_11 := Aside0.mk hr0_11
  have HC0_11 := Aside0.mk hc0_11
  clear hr0_11 hc0_11
  have HR0_12 := Aside0.mk hr0_12
  have HC0_12 := Aside0.mk hc0_12
  clear hr0_12 hc0_12
  have HB := Aside0.mk (Below.refl w.heap.size w)
  have H : (if a1 = true then (some 4096) else (some (mx 512 (mn a0_13 4096)))) = some r := h
  clear h
  by_cases c3 : a1 = true
  · subst c3
    have H1 : (some 4096) = some r := by rw [if_pos rfl] at H; exact H
    clear H
    have H := H1
    clear H1
    obtain rfl := Option.some.inj H
    go_enter Try.func33, Try.ntmps33
    go_wp2_with (first | ((with_reducible refine gate_dst (N := 2) rfl ?_); refine box_event ?hg (N := 2) ?hd (cs := #[.int .u16 a0_0, .bool a0_1, .int .i64 a0_2, .bool a0_3, .bool a0_4, .bool a0_5, .bool a0_6, .int .i64 a0_7, .string a0_8, .int .u16 a0_9, .slice A0_10 l0_10.length c0_10, .slice A0_11 l0_11.length c0_11, .slice A0_12 l0_12.length c0_12, .int .i64 a0_13]) (t := 58) ?hr ?_; (case hd => rfl); (case hg => rfl); (case hr => first | (go_simp; done) | (go_simp; rfl)); intro gb290 hg w4 hbox hb; have n0_ := Aside0.mk (below_step (by repeat (first | (with_reducible first | exact HB.out | apply below_alloc | apply pw_below_drewN | apply below_drew1) | exact HB.out)) hb); have n1_ := Aside0.mk (hbox); have n2_ := Aside0.mk ((by rw [hg]; exact (below_size (by repeat (first | (with_reducible first | exact HB.out | apply below_alloc | apply pw_below_drewN | apply below_drew1) | exact HB.out))) : w.heap.size ≤ gb290)); have n3_ := Aside0.mk ((by rw [hg]; exact (below_size (by repeat (first | (with_reducible first | exact HB.out | apply below_alloc | apply pw_below_drewN | apply below_drew1) | exact HB.out))) : w.heap.size ≤ gb290)); clear HB; have HB := n0_; have BK290 := n1_; have GW290 := n2_; have GE290 := n3_; clear n0_ n1_ n2_ n3_; clear hb hbox hg))
    go_ret
    exact ⟨by first | rfl | (simp [errW_none, errW_some] <;> rfl) | (simp [*, errW_none, errW_some] <;> rfl), by repeat (first | (with_reducible first | exact HB.out | apply below_alloc | apply pw_below_drewN | apply below_drew1 | refine below_set ?_ GE290.out) | exact HB.out)⟩
  · replace c3 := Bool.eq_false_iff.mpr c3
    subst c3
    have H1 : (some (mx 512 (mn a0_13 4096))) = some r := by rw [if_neg (show ¬ (false = true) by decide)] at H; exact H
    clear H
    have H := H1
    clear H1
    obtain ⟨ji5, hji5⟩ : ∃ j_ : Int, (mn a0_13 4096) = j_ := ⟨_, rfl⟩
    replace H : (some (mx 512 (ji5))) = some r := by first | (rw [hji5] at H; exact H) | (simp only [hji5] at H ⊢; exact H)
    (try (have hji5h : ji5 ≤ 4096 := by (rw [← hji5]; unfold mn; (repeat' split) <;> omega)))
    (try (have hji5g : ji5 ≤ 64 := by omega))
    have hji5_ : (if 4096 < a0_13 then 4096 else a0_13) = ji5 := hji5
    obtain ⟨ji6, hji6⟩ : ∃ j_ : Int, (mx 512 (ji5)) = j_ := ⟨_, rfl⟩
    replace H : (some ji6) = some r := by first | (rw [hji6] at H; exact H) | (simp only [hji6] at H ⊢; exact H)
    have hji6_ : (if 512 < (ji5) then (ji5) else 512) = ji6 := hji6
    obtain rfl := Option.some.inj H
    go_enter Try.func33, Try.ntmps33
    go_wp2_with (first | ((with_reducible refine gate_dst (N := 2) rfl ?_); refine box_event ?hg (N := 2) ?hd (cs := #[.int .u16 a0_0, .bool a0_1, .int .i64 a0_2, .bool a0_3, .bool a0_4, .bool a0_5, .bool a0_6, .int .i64 a0_7, .string a0_8, .int .u16 a0_9, .slice A0_10 l0_10.length c0_10, .slice A0_11 l0_11.length c0_11, .slice A0_12 l0_12.length c0_12, .int .i64 a0_13]) (t := 58) ?hr ?_; (case hd => rfl); (case hg => rfl); (case hr => first | (go_simp; done) | (go_simp; rfl)); intro gb290 hg w7 hbox hb; have n0_ := Aside0.mk (below_step (by repeat (first | (with_reducible first | exact HB.out | apply below_alloc | apply pw_below_drewN | apply below_drew1) | exact HB.out)) hb); have n1_ := Aside0.mk (hbox); have n2_ := Aside0.mk ((by rw [hg]; exact (below_size (by repeat (first | (with_reducible first | exact HB.out | apply below_alloc | apply pw_below_drewN | apply below_drew1) | exact HB.out))) : w.heap.size ≤ gb290)); have n3_ := Aside0.mk ((by rw [hg]; exact (below_size (by repeat (first | (with_reducible first | exact HB.out | apply below_alloc | apply pw_below_drewN | apply below_drew1) | exact HB.out))) : w.heap.size ≤ gb290)); clear HB; have HB := n0_; have BK290 := n1_; have GW290 := n2_; have GE290 := n3_; clear n0_ n1_ n2_ n3_; clear hb hbox hg; have hcz8_0 : w7.cell? ⟨gb290, 0, none⟩ = some (.int .u16 a0_0) := (blk_cell BK290.out 0).trans rfl; have hcz8_1 : w7.cell? ⟨gb290, 1, none⟩ = some (.bool a0_1) := (blk_cell BK290.out 1).trans rfl; have hcz8_2 : w7.cell? ⟨gb290, 2, none⟩ = some (.int .i64 a0_2) := (blk_cell BK290.out 2).trans rfl; have hcz8_3 : w7.cell? ⟨gb290, 3, none⟩ = some (.bool a0_3) := (blk_cell BK290.out 3).trans rfl; have hcz8_4 : w7.cell? ⟨gb290, 4, none⟩ = some (.bool a0_4) := (blk_cell BK290.out 4).trans rfl; have hcz8_5 : w7.cell? ⟨gb290, 5, none⟩ = some (.bool a0_5) := (blk_cell BK290.out 5).trans rfl; have hcz8_6 : w7.cell? ⟨gb290, 6, none⟩ = some (.bool a0_6) := (blk_cell BK290.out 6).trans rfl; have hcz8_7 : w7.cell? ⟨gb290, 7, none⟩ = some (.int .i64 a0_7) := (blk_cell BK290.out 7).trans rfl; have hcz8_8 : w7.cell? ⟨gb290, 8, none⟩ = some (.string a0_8) := (blk_cell BK290.out 8).trans rfl; have hcz8_9 : w7.cell? ⟨gb290, 9, none⟩ = some (.int .u16 a0_9) := (blk_cell BK290.out 9).trans rfl; have hcz8_10 : w7.cell? ⟨gb290, 10, none⟩ = some (.slice A0_10 l0_10.length c0_10) := (blk_cell BK290.out 10).trans rfl; have hcz8_11 : w7.cell? ⟨gb290, 11, none⟩ = some (.slice A0_11 l0_11.length c0_11) := (blk_cell BK290.out 11).trans rfl; have hcz8_12 : w7.cell? ⟨gb290, 12, none⟩ = some (.slice A0_12 l0_12.length c0_12) := (blk_cell BK290.out 12).trans rfl; have hcz8_13 : w7.cell? ⟨gb290, 13, none⟩ = some (.int .i64 a0_13) := (blk_cell BK290.out 13).trans rfl; have hfz8_0 := blk_frozen BK290.out 0; have hfz8_1 := blk_frozen BK290.out 1; have hfz8_2 := blk_frozen BK290.out 2; have hfz8_3 := blk_frozen BK290.out 3; have hfz8_4 := blk_frozen BK290.out 4; have hfz8_5 := blk_frozen BK290.out 5; have hfz8_6 := blk_frozen BK290.out 6; have hfz8_7 := blk_frozen BK290.out 7; have hfz8_8 := blk_frozen BK290.out 8; have hfz8_9 := blk_frozen BK290.out 9; have hfz8_10 := blk_frozen BK290.out 10; have hfz8_11 := blk_frozen BK290.out 11; have hfz8_12 := blk_frozen BK290.out 12; have hfz8_13 := blk_frozen BK290.out 13))
    go_ret
    exact ⟨by first | rfl | (simp [errW_none, errW_some] <;> rfl) | (simp only [← hji5, ← hji6]; first | rfl | (simp [errW_none, errW_some] <;> rfl)) | (simp [*, errW_none, errW_some] <;> rfl), by repeat (first | (with_reducible first | exact HB.out | apply below_alloc | apply pw_below_drewN | apply below_drew1 | refine below_set ?_ GE290.out) | exact HB.out)⟩

end Go.Proofs.Ytdkjlbbbdjkhbaa.PAll
