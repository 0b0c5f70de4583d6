-- Written by a program of this session (wip/tools/drive.py over the kit's printer): functions, contracts and rows (All).
import Derived.Test.YtdkjlbbbdjkhbaaPAllx0
import Derived.Test.YtdkjlbbbdjkhbaaPAllx7
namespace Go.Proofs.Ytdkjlbbbdjkhbaa.PAll
open Go.RowKit Go.Proofs.YtdkjlbbbdjkhbaaW.PrintWords Go.Proofs.YtdkjlbbbdjkhbaaW.PrintLast Go.Proofs.YtdkjlbbbdjkhbaaW.PrintMore
attribute [local go_sem] max2_int min2_int max_two min_two max_three min_three max_four min_four   -- for this text's walks alone
open Go.Proofs.Ytdkjlbbbdjkhbaa.Hand
set_option linter.unusedVariables false
set_option linter.unusedSimpArgs false

/-! ### name_Join: function 39 -/
def name_Join.f (k : Nat) (a0 : ByteArray) (a1 : ByteArray) : Option (ByteArray × Bool) := (name_May.f k a0).bind fun t109 => (if t109 = true then ((name_May.f k a1).bind fun t110 => (if t110 = true then (if (wrap64 ((a0.size : Int) + (a1.size : Int))) > 254 then (some ((⟨#[]⟩ : ByteArray), false)) else (if a0.size + a1.size ≤ 9223372036854775807 then (some (a0 ++ a1, true)) else (none))) else (some ((⟨#[]⟩ : ByteArray), false)))) else (some ((⟨#[]⟩ : ByteArray), false)))
theorem name_Join.mono : ∀ a0 a1 k, LeO (name_Join.f k a0 a1) (name_Join.f (k + 1) a0 a1) := by
  intro a0 a1 k
  unfold name_Join.f
  repeat' first
      | (with_reducible exact name_May.mono _ _)
      | (with_reducible exact LeO.refl _)
      | (with_reducible exact LeO.none _)
      | (with_reducible refine LeO.ite ?_ ?_)
      | (with_reducible refine LeO.bind ?_ (fun _ => ?_))
      | exact name_May.mono _ _
      | exact LeO.none _
      | refine LeO.ite ?_ ?_
      | refine LeO.bind ?_ (fun _ => ?_)
set_option maxHeartbeats 8000000 in
set_option maxRecDepth 100000 in
theorem name_Join.calls (k : Nat) (a0 : ByteArray) (a1 : ByteArray) (r1 : ByteArray) (r2 : Bool) (w : World) (h : name_Join.f k a0 a1 = some (r1, r2)) :
    Calls Try.prog 39 #[.string a0, .string a1] w fun e w' => e = .returned (.tuple #[.string r1, .bool r2]) ∧ Below w.heap.size w w' := by
  have HB := Aside0.mk (Below.refl w.heap.size w)
  have H : ((name_May.f k a0).bind fun t109 => (if t109 = true then ((name_May.f k a1).bind fun t110 => (if t110 = true then (if (wrap64 ((a0.size : Int) + (a1.size : Int))) > 254 then (some ((⟨#[]⟩ : ByteArray), false)) else (if a0.size + a1.size ≤ 9223372036854775807 then (some (a0 ++ a1, true)) else (none))) else (some ((⟨#[]⟩ : ByteArray), false)))) else (some ((⟨#[]⟩ : ByteArray), false)))) = some (r1, r2) := h
  clear h
  replace H := Option.bind_eq_some_iff.mp H
  obtain ⟨t109, A30, H⟩ := H
  replace H : (if t109 = true then ((name_May.f k a1).bind fun t110 => (if t110 = true then (if (wrap64 ((a0.size : Int) + (a1.size : Int))) > 254 then (some ((⟨#[]⟩ : ByteArray), false)) else (if a0.size + a1.size ≤ 9223372036854775807 then (some (a0 ++ a1, true)) else (none))) else (some ((⟨#[]⟩ : ByteArray), false)))) else (some ((⟨#[]⟩ : ByteArray), false))) = some (r1, r2) := H
  have A3 := Aside0.mk A30
  clear A30
  by_cases c4 : t109 = true
  · subst c4
    have H1 : ((name_May.f k a1).bind fun t110 => (if t110 = true then (if (wrap64 ((a0.size : Int) + (a1.size : Int))) > 254 then (some ((⟨#[]⟩ : ByteArray), false)) else (if a0.size + a1.size ≤ 9223372036854775807 then (some (a0 ++ a1, true)) else (none))) else (some ((⟨#[]⟩ : ByteArray), false)))) = some (r1, r2) := by rw [if_pos rfl] at H; exact H
    clear H
    have H := H1
    clear H1
    replace H := Option.bind_eq_some_iff.mp H
    obtain ⟨t110, A50, H⟩ := H
    replace H : (if t110 = true then (if (wrap64 ((a0.size : Int) + (a1.size : Int))) > 254 then (some ((⟨#[]⟩ : ByteArray), false)) else (if a0.size + a1.size ≤ 9223372036854775807 then (some (a0 ++ a1, true)) else (none))) else (some ((⟨#[]⟩ : ByteArray), false))) = some (r1, r2) := H
    have A5 := Aside0.mk A50
    clear A50
    by_cases c6 : t110 = true
    · subst c6
      have H1 : (if (wrap64 ((a0.size : Int) + (a1.size : Int))) > 254 then (some ((⟨#[]⟩ : ByteArray), false)) else (if a0.size + a1.size ≤ 9223372036854775807 then (some (a0 ++ a1, true)) else (none))) = some (r1, r2) := by rw [if_pos rfl] at H; exact H
      clear H
      have H := H1
      clear H1
      by_cases c7 : (wrap64 ((a0.size : Int) + (a1.size : Int))) > 254
      · rw [if_pos c7] at H
        have c7b0 : decide (254 < (wrap64 ((a0.size : Int) + (a1.size : Int)))) = true := decide_eq_true c7
        clear c7
        simp only [Option.some.injEq, Prod.mk.injEq] at H
        obtain ⟨rfl, rfl⟩ := H
        go_enter Try.func39, Try.ntmps39
        go_wp2_with (first | ((with_reducible refine gate_callee (f := 18) rfl ?_); refine goesL_ (some 7) rfl rfl Try.func18 (by kernel_rfl) rfl #[.string a0] rfl (by (try simp only [List.map_toArray, List.map_cons, List.map_nil]); first | done | rfl | (simp only [List.length_drop, List.length_take]; rfl)) ?_; (with_reducible refine (name_May.calls k a0 true _ A3.out).mono ?_); rintro e w8 ⟨rfl, hb⟩; refine ⟨_, rfl, ?_⟩; have n0_ := Aside0.mk (below_step (by repeat (first | (with_reducible first | exact HB.out | apply below_alloc | apply pw_below_drewN | apply below_drew1) | exact HB.out)) hb); clear HB; have HB := n0_; clear n0_; (try clear hb); (try clear hb2); (try clear hk); (try clear hi)) | (go_at_call 18; (with_reducible refine (name_May.calls k a1 true _ A5.out).mono ?_); rintro e w9 ⟨rfl, hb⟩; have n0_ := Aside0.mk (below_step (by repeat (first | (with_reducible first | exact HB.out | apply below_alloc | apply pw_below_drewN | apply below_drew1) | exact HB.out)) hb); clear HB; have HB := n0_; clear n0_; (try clear hb); (try clear hb2); (try clear hk); (try clear hi)))
        go_ret2
        exact ⟨by first | rfl | (simp [errW_none, errW_some] <;> rfl) | (simp [*, errW_none, errW_some] <;> rfl), by repeat (first | (with_reducible first | exact HB.out | apply below_alloc | apply pw_below_drewN | apply below_drew1) | exact HB.out)⟩
      · rw [if_neg c7] at H
        have c7b0 : decide (254 < (wrap64 ((a0.size : Int) + (a1.size : Int)))) = false := decide_eq_false c7
        clear c7
        by_cases c10 : a0.size + a1.size ≤ 9223372036854775807
        · rw [if_pos c10] at H
          have c10b0 := eq_true c10
          have c10b1 : decide (a0.size + a1.size ≤ 9223372036854775807) = true := decide_eq_true c10
          try have c10b2 : (9223372036854775807 < a0.size + a1.size) = False := eq_false (Nat.not_lt.2 c10)
          have c7x : ¬ (254 : Int) < (a0.size : Int) + (a1.size : Int) := by
            have h7 := of_decide_eq_false c7b0
            have h8 := of_decide_eq_true c10b1
            unfold wrap64 at h7
            omega
          have c7y : decide ((254 : Int) < (a0.size : Int) + (a1.size : Int)) = false := decide_eq_false c7x
          simp only [Option.some.injEq, Prod.mk.injEq] at H
          obtain ⟨rfl, rfl⟩ := H
          go_enter Try.func39, Try.ntmps39
          go_wp2_with (first | ((with_reducible refine gate_callee (f := 18) rfl ?_); refine goesL_ (some 7) rfl rfl Try.func18 (by kernel_rfl) rfl #[.string a0] rfl (by (try simp only [List.map_toArray, List.map_cons, List.map_nil]); first | done | rfl | (simp only [List.length_drop, List.length_take]; rfl)) ?_; (with_reducible refine (name_May.calls k a0 true _ A3.out).mono ?_); rintro e w11 ⟨rfl, hb⟩; refine ⟨_, rfl, ?_⟩; have n0_ := Aside0.mk (below_step (by repeat (first | (with_reducible first | exact HB.out | apply below_alloc | apply pw_below_drewN | apply below_drew1) | exact HB.out)) hb); clear HB; have HB := n0_; clear n0_; (try clear hb); (try clear hb2); (try clear hk); (try clear hi)) | (go_at_call 18; (with_reducible refine (name_May.calls k a1 true _ A5.out).mono ?_); rintro e w12 ⟨rfl, hb⟩; have n0_ := Aside0.mk (below_step (by repeat (first | (with_reducible first | exact HB.out | apply below_alloc | apply pw_below_drewN | apply below_drew1) | exact HB.out)) hb); clear HB; have HB := n0_; clear n0_; (try clear hb); (try clear hb2); (try clear hk); (try clear hi)))
          go_ret2
          exact ⟨by first | rfl | (simp [errW_none, errW_some] <;> rfl) | (simp [*, errW_none, errW_some] <;> rfl), by repeat (first | (with_reducible first | exact HB.out | apply below_alloc | apply pw_below_drewN | apply below_drew1) | exact HB.out)⟩
        · rw [if_neg c10] at H
          exact absurd H (by simp)
    · replace c6 := Bool.eq_false_iff.mpr c6
      subst c6
      have H1 : (some ((⟨#[]⟩ : ByteArray), false)) = some (r1, r2) := by rw [if_neg (show ¬ (false = true) by decide)] at H; exact H
      clear H
      have H := H1
      clear H1
      simp only [Option.some.injEq, Prod.mk.injEq] at H
      obtain ⟨rfl, rfl⟩ := H
      go_enter Try.func39, Try.ntmps39
      go_wp2_with (first | ((with_reducible refine gate_callee (f := 18) rfl ?_); refine goesL_ (some 7) rfl rfl Try.func18 (by kernel_rfl) rfl #[.string a0] rfl (by (try simp only [List.map_toArray, List.map_cons, List.map_nil]); first | done | rfl | (simp only [List.length_drop, List.length_take]; rfl)) ?_; (with_reducible refine (name_May.calls k a0 true _ A3.out).mono ?_); rintro e w13 ⟨rfl, hb⟩; refine ⟨_, rfl, ?_⟩; have n0_ := Aside0.mk (below_step (by repeat (first | (with_reducible first | exact HB.out | apply below_alloc | apply pw_below_drewN | apply below_drew1) | exact HB.out)) hb); clear HB; have HB := n0_; clear n0_; (try clear hb); (try clear hb2); (try clear hk); (try clear hi)) | (go_at_call 18; (with_reducible refine (name_May.calls k a1 false _ A5.out).mono ?_); rintro e w14 ⟨rfl, hb⟩; have n0_ := Aside0.mk (below_step (by repeat (first | (with_reducible first | exact HB.out | apply below_alloc | apply pw_below_drewN | apply below_drew1) | exact HB.out)) hb); clear HB; have HB := n0_; clear n0_; (try clear hb); (try clear hb2); (try clear hk); (try clear hi)))
      go_ret2
      exact ⟨by first | rfl | (simp [errW_none, errW_some] <;> rfl) | (simp [*, errW_none, errW_some] <;> rfl), by repeat (first | (with_reducible first | exact HB.out | apply below_alloc | apply pw_below_drewN | apply below_drew1) | exact HB.out)⟩
  · replace c4 := Bool.eq_false_iff.mpr c4
    subst c4
    have H1 : (some ((⟨#[]⟩ : ByteArray), false)) = some (r1, r2) := by rw [if_neg (show ¬ (false = true) by decide)] at H; exact H
    clear H
    have H := H1
    clear H1
    simp only [Option.some.injEq, Prod.mk.injEq] at H
    obtain ⟨rfl, rfl⟩ := H
    go_enter Try.func39, Try.ntmps39
    go_wp2_with (first | ((with_reducible refine gate_callee (f := 18) rfl ?_); refine goesL_ (some 7) rfl rfl Try.func18 (by kernel_rfl) rfl #[.string a0] rfl (by (try simp only [List.map_toArray, List.map_cons, List.map_nil]); first | done | rfl | (simp only [List.length_drop, List.length_take]; rfl)) ?_; (with_reducible refine (name_May.calls k a0 false _ A3.out).mono ?_); rintro e w15 ⟨rfl, hb⟩; refine ⟨_, rfl, ?_⟩; have n0_ := Aside0.mk (below_step (by repeat (first | (with_reducible first | exact HB.out | apply below_alloc | apply pw_below_drewN | apply below_drew1) | exact HB.out)) hb); clear HB; have HB := n0_; clear n0_; (try clear hb); (try clear hb2); (try clear hk); (try clear hi)))
    go_ret2
    exact ⟨by first | rfl | (simp [errW_none, errW_some] <;> rfl) | (simp [*, errW_none, errW_some] <;> rfl), by repeat (first | (with_reducible first | exact HB.out | apply below_alloc | apply pw_below_drewN | apply below_drew1) | exact HB.out)⟩

end Go.Proofs.Ytdkjlbbbdjkhbaa.PAll
