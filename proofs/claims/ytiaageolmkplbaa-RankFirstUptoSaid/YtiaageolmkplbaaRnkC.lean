/- The laws' awake, walked. -/
import Derived.Test.YtiaageolmkplbaaRnkB
set_option linter.unusedVariables false
namespace Go.Proofs.Ytiaageolmkplbaa.Hand
open Go.RowKit Go.Proofs.YtiaageolmkplbaaW.PrintWords Go.Proofs.YtiaageolmkplbaaW.PrintLast Go.Proofs.Ytiaageolmkplbaa.PBase0 Go.Proofs.Ytiaageolmkplbaa.Flt
theorem twoStr (W : World) (a b : ByteArray) : Kd.C Kd.string (W.alloc (.cells #[.string a, .string b] 9)) (some ⟨W.heap.size, 0, none⟩) 2 [a, b] := by
  refine ⟨rfl, by decide, fun _ => ⟨_, rfl, fun j p hj => ?_⟩⟩
  have hx : j < 2 := (List.getElem?_eq_some_iff.1 hj).1
  refine ⟨[.string p], rfl, rfl, fun i u hi => ?_⟩
  have hi0 : i = 0 := by
    have := (List.getElem?_eq_some_iff.1 hi).1
    simp at this
    exact this
  subst hi0
  have h2 := blk_cell (blk_new W (.cells #[.string a, .string b] 9)) j
  have e1 : (⟨W.heap.size, 0, none⟩ : Addr).add (j * 1 + 0) = ⟨W.heap.size, j, none⟩ := by unfold Addr.add; by_cases h0 : j = 0 <;> simp [h0]
  rw [show Kd.string.sz = 1 from rfl, e1, h2]
  rcases (show j = 0 ∨ j = 1 by omega) with rfl | rfl
  · obtain rfl : a = p := by simpa using hj
    simpa using hi
  · obtain rfl : b = p := by simpa using hj
    simpa using hi
theorem f3 : floatOfInt .f64 3 = 4613937818241073152 := by decide +kernel
theorem f509 : floatOfInt .f64 509 = 4647662038888218624 := by decide +kernel
set_option maxHeartbeats 4000000 in
set_option maxRecDepth 100000 in
theorem awake18.any (w : World) : Calls Try.prog 7 #[] w fun e w' => e = .returned (.bool true) ∧ Below w.heap.size w w' := by
  have o1 : (FloatKind.f64.format.order 4613937818241073152 4613937818241073152 == some .eq) = true := by decide +kernel
  have o2 : (FloatKind.f64.format.order 4647662038888218624 4647662038888218624 == some .eq) = true := by decide +kernel
  go_enter Try.func7, Try.ntmps7
  go_wp2_with (first
    | (go_at_call 17; refine (name_Make.calls _ 2 [⟨#[97]⟩, ⟨#[98]⟩] ⟨#[1, 97, 1, 98]⟩ true _ (twoStr _ _ _) (by decide) (by decide +kernel)).mono ?_; rintro e w1 ⟨rfl, hb⟩; have D1 := Lib.hid (below_step (below_alloc (Below.refl w.heap.size w) _) hb); clear hb)
    | (go_at_call 12; have hS := rank_Step.any 3 509 (by decide) (by decide) w1; unfold cx at hS; rw [f3, f509] at hS; refine hS.mono ?_; clear hS; rintro e w2 ⟨rfl, rfl⟩)
    | (go_at_call 9; refine (rank_Of.any 12 3 1 ⟨#[1, 97, 1, 98]⟩ ⟨#[]⟩ 0 2 w2 (by decide +kernel) (by decide) (by decide)).mono ?_; unfold cx; rw [show rankI 1 (lenT 2 (⟨#[]⟩ : ByteArray) 0) = 509 by decide, f3, f509]; rintro e w3 ⟨rfl, hb⟩; have D3 := Lib.hid (below_step D1.out hb); clear hb))
  go_ret
  exact ⟨rfl, D3.out⟩
end Go.Proofs.Ytiaageolmkplbaa.Hand
